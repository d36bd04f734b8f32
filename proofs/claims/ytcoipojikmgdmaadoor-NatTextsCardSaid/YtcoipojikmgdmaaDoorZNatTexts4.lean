-- Written by a program of this session (wip/tools/shake.py) out of its own texts and of the kit's printed ones; not trusted: Lean checks it.
import Derived.Test.YtcoipojikmgdmaaDoorZNatTexts3
section
namespace Go.Proofs.YtcoipojikmgdmaaDoor.P
open Go.RowKit Go.Proofs.YtcoipojikmgdmaaDoorW.PrintWords Go.Proofs.YtcoipojikmgdmaaDoorW.PrintLast Go.Proofs.YtcoipojikmgdmaaDoorW.PrintMore
attribute [local go_sem] max2_int min2_int max_two min_two max_three min_three max_four min_four
set_option linter.unusedVariables false
set_option linter.unusedSimpArgs false
def nat_Add.l0 : Nat → List Int → List Int → List Int → Int → Int → Int → Option (List Int)
  | 0, _, _, _, _, _, _ => none
  | k + 1, x0, x1, x5, x6, x13, x14 => if x14 < x13 then ((nat_Nat_at.f x0 x14).bind fun t314 => ((nat_Nat_at.f x1 x14).bind fun t315 => ((bits_Add64.f t314 t315 x6).bind fun bt316 => (if x5.length < 17592186044416 then (nat_Add.l0 k x0 x1 (x5 ++ [bt316.1]) bt316.2 x13 (wrap64 (x14 + 1))) else (none))))) else (if x5.length < 17592186044416 then ((nat_trim.f k (x5 ++ [x6])).bind fun t324 => (some t324)) else (none))
def nat_Add.f (k : Nat) (l0 : List Int) (l1 : List Int) : Option (List Int) := nat_Add.l0 k l0 l1 ([] : List Int) 0 (mx (l0.length : Int) (l1.length : Int)) 0
set_option maxHeartbeats 8000000 in
set_option maxRecDepth 100000 in
theorem nat_Add.calls (k : Nat) (A0 : Option Addr) (c0 : Nat) (l0 : List Int) (A1 : Option Addr) (c1 : Nat) (l1 : List Int) (r : List Int) (w : World) (hr0 : Kd.C (Kd.int .u64) w A0 l0.length l0) (hc0 : l0.length ≤ c0) (hr1 : Kd.C (Kd.int .u64) w A1 l1.length l1) (hc1 : l1.length ≤ c1) (h : nat_Add.f k l0 l1 = some r) :
    Calls Tryd.prog 25 #[.slice A0 l0.length c0, .slice A1 l1.length c1] w fun e w' => ∃ v0_ : Value, e = .returned (v0_) ∧ Kd.V (Kd.int .u64) 23 w' w.heap.size (fun k_ => (w.heap.size ≤ k_)) v0_ r ∧ Below w.heap.size w w' := by
  have HR0 := Aside0.mk hr0
  have HC0 := Aside0.mk hc0
  clear hr0 hc0
  have HR1 := Aside0.mk hr1
  have HC1 := Aside0.mk hc1
  clear hr1 hc1
  have HB := Aside0.mk (Below.refl w.heap.size w)
  have H : (nat_Add.l0 k l0 l1 ([] : List Int) 0 (mx (l0.length : Int) (l1.length : Int)) 0) = some r := h
  clear h
  obtain ⟨ji3, hji3⟩ : ∃ j_ : Int, (mx (l0.length : Int) (l1.length : Int)) = j_ := ⟨_, rfl⟩
  replace H : (nat_Add.l0 k l0 l1 ([] : List Int) 0 ji3 0) = some r := by first | (rw [hji3] at H; exact H) | (simp only [hji3] at H ⊢; exact H)
  (try (have hji3l : 0 ≤ ji3 := by (rw [← hji3]; unfold mx; (repeat' split) <;> omega)))
  (try (have hji3m : 0 ≤ ji3 := by omega))
  have hji3_ : (if (l0.length : Int) < (l1.length : Int) then (l1.length : Int) else (l0.length : Int)) = ji3 := hji3
  (try (have hji3n_ := hji3_; simp only [Int.ofNat_lt] at hji3n_))
  have H' := Aside0.mk H
  clear H
  go_enter Tryd.func25, Tryd.ntmps25
  go_wp2
  go_loopg [5, 6, 14] k (fun kq v5 v6 v14 w' => ∃ (x5_1 : List Int) (x6_1 : Int) (x14_1 : Int), v6 = .int .u64 x6_1 ∧ v14 = .int .i64 x14_1 ∧ Aside0 (nat_Add.l0 kq l0 l1 x5_1 x6_1 ji3 x14_1 = some r) ∧ Aside0 (kq ≤ k) ∧ Aside0 (Kd.R (Kd.int .u64) 23 w' w.heap.size (fun k_ => (w.heap.size ≤ k_)) v5 x5_1) ∧ Aside0 (Below w.heap.size w w'))
  case atStart => exact ⟨(([] : List Int)), (0), (0), (by first | rfl | (simp; done) | (simp [*]; done)), (by first | rfl | (simp; done) | (simp [*]; done)), H', ⟨Nat.le_refl _⟩, ⟨by first | exact Kd.R_nil _ _ _ _ _ | exact Kd.N_nil _ _ _ _ _ | exact Kd.V_nil _ _ _ _ _ | exact Kd.Q_nil _ _ _ _ _ | exact Kd.S_nil _ _ _ _ _⟩, ⟨by repeat (first | (with_reducible first | exact HB.out | apply below_alloc | apply pw_below_drewN | apply below_drew1) | exact HB.out)⟩⟩
  case round =>
    clear H'
    try clear c1
    try clear c2
    try clear p2
    obtain ⟨x5_1, x6_1, x14_1, rfl, rfl, HA, HK1, HO_5, HB⟩ := hrel
    cases gk with
    | zero => exact absurd HA.out (by simp [nat_Add.l0])
    | succ k1 =>
      have H := HA.out
      clear HA
      simp only [nat_Add.l0] at H
      by_cases c4 : x14_1 < ji3
      · rw [if_pos c4] at H
        have c4b0 : decide (x14_1 < ji3) = true := decide_eq_true c4
        clear c4
        replace H := Option.bind_eq_some_iff.mp H
        obtain ⟨t314, A50, H⟩ := H
        replace H : ((nat_Nat_at.f l1 x14_1).bind fun t315 => ((bits_Add64.f t314 t315 x6_1).bind fun bt316 => (if x5_1.length < 17592186044416 then (nat_Add.l0 k1 l0 l1 (x5_1 ++ [bt316.1]) bt316.2 ji3 (wrap64 (x14_1 + 1))) else (none)))) = some r := H
        have A5 := Aside0.mk A50
        clear A50
        replace H := Option.bind_eq_some_iff.mp H
        obtain ⟨t315, A60, H⟩ := H
        replace H : ((bits_Add64.f t314 t315 x6_1).bind fun bt316 => (if x5_1.length < 17592186044416 then (nat_Add.l0 k1 l0 l1 (x5_1 ++ [bt316.1]) bt316.2 ji3 (wrap64 (x14_1 + 1))) else (none))) = some r := H
        have A6 := Aside0.mk A60
        clear A60
        replace H := Option.bind_eq_some_iff.mp H
        obtain ⟨⟨t316, t317⟩, A70, H⟩ := H
        replace H : (if x5_1.length < 17592186044416 then (nat_Add.l0 k1 l0 l1 (x5_1 ++ [t316]) t317 ji3 (wrap64 (x14_1 + 1))) else (none)) = some r := H
        have A7 := fun W_ => bits_Add64.run (W := W_) A70
        clear A70
        by_cases c8 : x5_1.length < 17592186044416
        · rw [if_pos c8] at H
          have LMc8 := Aside0.mk c8
          clear c8
          obtain ⟨y318, hy318⟩ : ∃ y_ : List Int, y_ = (x5_1 ++ [t316]) := ⟨_, rfl⟩
          replace H : (nat_Add.l0 k1 l0 l1 y318 t317 ji3 (wrap64 (x14_1 + 1))) = some r := by first | (rw [hy318]; with_reducible exact H) | (have H2_ := (Option.bind_some _ _).symm.trans H; rw [hy318]; with_reducible exact H2_) | (have H2_ := (Option.bind_some _ _).symm.trans H; with_reducible exact H2_) | with_reducible exact H | (rw [hy318]; exact H) | exact H
          have Ny318 := Aside0.mk hy318
          clear hy318
          have H' := Aside0.mk H
          clear H
          go_wp2_with (first | ((with_reducible refine gate_callee (f := 47) rfl ?_); refine goesL_ (some 20) rfl rfl Tryd.func47 (by kernel_rfl) rfl #[.slice A0 l0.length c0, .int .i64 x14_1] rfl (by (try simp only [List.map_toArray, List.map_cons, List.map_nil]); first | done | rfl | (simp only [List.length_drop, List.length_take]; rfl) | ((simp [Act.eval, wrap64]) <;> omega) | ((simp [Act.eval, wrap64, IntKind.wrap, IntKind.bits, IntKind.signed]) <;> omega)) ?_; (with_reducible refine (nat_Nat_at.calls _ _ l0 x14_1 t314 _ ?side1 ?side2 A5.out).mono ?_); (case side1 => repeat (first | exact (Kd.C_below HR0.out HB.out) | (with_reducible refine Kd.C_alloc ?_ _) | (with_reducible refine Kd.C_drewN ?_ _) | (with_reducible refine Kd.C_drew ?_))); (case side2 => exact HC0.out); rintro e w' ⟨rfl, ⟨nd, rfl⟩⟩; refine ⟨_, rfl, ?_⟩) | ((with_reducible refine gate_callee (f := 47) rfl ?_); refine goesL_ (some 23) rfl rfl Tryd.func47 (by kernel_rfl) rfl #[.slice A1 l1.length c1, .int .i64 x14_1] rfl (by (try simp only [List.map_toArray, List.map_cons, List.map_nil]); first | done | rfl | (simp only [List.length_drop, List.length_take]; rfl) | ((simp [Act.eval, wrap64]) <;> omega) | ((simp [Act.eval, wrap64, IntKind.wrap, IntKind.bits, IntKind.signed]) <;> omega)) ?_; (with_reducible refine (nat_Nat_at.calls _ _ l1 x14_1 t315 _ ?side1 ?side2 A6.out).mono ?_); (case side1 => repeat (first | exact (Kd.C_below HR1.out (by repeat (first | (with_reducible first | exact HB.out | apply below_alloc | apply pw_below_drewN | apply below_drew1) | exact HB.out))) | (with_reducible refine Kd.C_alloc ?_ _) | (with_reducible refine Kd.C_drewN ?_ _) | (with_reducible refine Kd.C_drew ?_))); (case side2 => exact HC1.out); rintro e w' ⟨rfl, ⟨nd, rfl⟩⟩; refine ⟨_, rfl, ?_⟩) | ((with_reducible refine gate_builtin (b := .append) (xs := #[.tmp 28, .tmp 30]) rfl ?_); at_builtin; refine Kd.R_append (Kd.int .u64) (w0 := w) w.heap.size rfl (.tmp 28) (.tmp 30) 26 23 (.int .u64 0) 8 rfl Tryd.underlying26 info23 rfl (by decide) (by omega) u5 x5_1 t316 [.int .u64 t316] (fun k_ => (w.heap.size ≤ k_)) (fun _ => False) rfl rfl ?aP (fun _ hk => hk.elim) ?aF ?aO ?aB ?aS ?aL ?_; (case aP => exact rfl); (case aB => exact (by repeat (first | (with_reducible first | exact HB.out | apply below_alloc | apply pw_below_drewN | apply below_drew1) | exact HB.out))); (case aF => exact (fun k_ hk => (Nat.le_trans (below_size (by repeat (first | (with_reducible first | exact HB.out | apply below_alloc | apply pw_below_drewN | apply below_drew1) | exact HB.out))) hk))); (case aO => exact (by (with_reducible repeat (first | apply Kd.R_alloc | apply Kd.R_drewN | apply Kd.R_drew)); exact HO_5.out)); (case aS => exact (below_size (by repeat (first | (with_reducible first | exact HB.out | apply below_alloc | apply pw_below_drewN | apply below_drew1) | exact HB.out)))); (case aL => have := LMc8.out; omega); intro v319 w9 ho hb hg hat; rw [← Ny318.out] at ho; have n0_ := Aside0.mk (hb); have n1_ := Aside0.mk (ho); clear HB; clear HO_5; have HB := n0_; have HO320 := n1_; clear n0_ n1_; clear ho hb hg hat))
          go_roundg k1
          case measure => have := HK1.out; omega
          case rel => exact ⟨(y318), (t317), (wrap64 (x14_1 + 1)), (by first | rfl | (simp; done) | (simp [*]; done)), (by first | rfl | (simp; done) | (simp [*]; done)), H', ⟨by have := HK1.out; omega⟩, ⟨by (with_reducible repeat (first | apply Kd.R_alloc | apply Kd.R_drewN | apply Kd.R_drew)); exact HO320.out⟩, ⟨by repeat (first | (with_reducible first | exact HB.out | apply below_alloc | apply pw_below_drewN | apply below_drew1) | exact HB.out)⟩⟩
        · rw [if_neg c8] at H
          exact absurd H (by simp)
      · rw [if_neg c4] at H
        have c4b0 : decide (x14_1 < ji3) = false := decide_eq_false c4
        clear c4
        by_cases c10 : x5_1.length < 17592186044416
        · rw [if_pos c10] at H
          have LMc10 := Aside0.mk c10
          clear c10
          obtain ⟨y321, hy321⟩ : ∃ y_ : List Int, y_ = (x5_1 ++ [x6_1]) := ⟨_, rfl⟩
          replace H : ((nat_trim.f k1 y321).bind fun t324 => (some t324)) = some r := by first | (rw [hy321]; with_reducible exact H) | (have H2_ := (Option.bind_some _ _).symm.trans H; rw [hy321]; with_reducible exact H2_) | (have H2_ := (Option.bind_some _ _).symm.trans H; with_reducible exact H2_) | with_reducible exact H | (rw [hy321]; exact H) | exact H
          have Ny321 := Aside0.mk hy321
          clear hy321
          replace H := Option.bind_eq_some_iff.mp H
          obtain ⟨t324, A110, H⟩ := H
          replace H : (some t324) = some r := H
          have A11 := Aside0.mk A110
          clear A110
          obtain rfl := Option.some.inj H
          go_wp2_with (first | ((with_reducible refine gate_builtin (b := .append) (xs := #[.tmp 33, .tmp 35]) rfl ?_); at_builtin; refine Kd.R_append (Kd.int .u64) (w0 := w) w.heap.size rfl (.tmp 33) (.tmp 35) 26 23 (.int .u64 0) 8 rfl Tryd.underlying26 info23 rfl (by decide) (by omega) u5 x5_1 x6_1 [.int .u64 x6_1] (fun k_ => (w.heap.size ≤ k_)) (fun _ => False) rfl rfl ?aP (fun _ hk => hk.elim) ?aF ?aO ?aB ?aS ?aL ?_; (case aP => exact rfl); (case aB => exact (by repeat (first | (with_reducible first | exact HB.out | apply below_alloc | apply pw_below_drewN | apply below_drew1) | exact HB.out))); (case aF => exact (fun k_ hk => (Nat.le_trans (below_size (by repeat (first | (with_reducible first | exact HB.out | apply below_alloc | apply pw_below_drewN | apply below_drew1) | exact HB.out))) hk))); (case aO => exact (by (with_reducible repeat (first | apply Kd.R_alloc | apply Kd.R_drewN | apply Kd.R_drew)); exact HO_5.out)); (case aS => exact (below_size (by repeat (first | (with_reducible first | exact HB.out | apply below_alloc | apply pw_below_drewN | apply below_drew1) | exact HB.out)))); (case aL => have := LMc10.out; omega); intro v322 w12 ho hb hg hat; rw [← Ny321.out] at ho; have n0_ := Aside0.mk (hb); have n1_ := Aside0.mk (ho); clear HB; clear HO_5; have HB := n0_; have HO323 := n1_; clear n0_ n1_; clear ho hb hg hat; obtain ⟨Ao13, co13, eo13⟩ := Kd.R_slice HO323.out; subst eo13) | ((with_reducible refine gate_callee (f := 38) rfl ?_); refine goesL_ (some 37) rfl rfl Tryd.func38 (by kernel_rfl) rfl #[.slice Ao13 y321.length co13] rfl (by (try simp only [List.map_toArray, List.map_cons, List.map_nil]); first | done | rfl | (simp only [List.length_drop, List.length_take]; rfl) | ((simp [Act.eval, wrap64]) <;> omega) | ((simp [Act.eval, wrap64, IntKind.wrap, IntKind.bits, IntKind.signed]) <;> omega)) ?_; (with_reducible refine (nat_trim.calls k1 (fun k_ => some k_ = (.slice Ao13 y321.length co13 : Value).ownBlock) _ _ y321 t324 _ ?side1 A11.out).mono ?_); (case side1 => exact Kd.R_V (Kd.R_tight rfl (HO323.out))); rintro e w14 ⟨v325, rfl, ho0, hb⟩; refine ⟨_, rfl, ?_⟩; have n0_ := Aside0.mk (Kd.R_below (by (with_reducible repeat (first | apply Kd.R_alloc | apply Kd.R_drewN | apply Kd.R_drew)); exact HO323.out) hb); have n1_ := Aside0.mk (Kd.V_lower (Kd.V_mono (ok' := fun k_ => (w.heap.size ≤ k_)) ho0 (fun k_ hk_ => Or.elim hk_ (fun hs_ => ((HO323.out).1 k_ hs_.symm)) (fun hn_ => (Nat.le_trans (below_size (by repeat (first | (with_reducible first | exact HB.out | apply below_alloc | apply pw_below_drewN | apply below_drew1) | exact HB.out))) hn_)))) (below_size (by repeat (first | (with_reducible first | exact HB.out | apply below_alloc | apply pw_below_drewN | apply below_drew1) | exact HB.out)))); have n2_ := Aside0.mk (below_step (by repeat (first | (with_reducible first | exact HB.out | apply below_alloc | apply pw_below_drewN | apply below_drew1) | exact HB.out)) hb); clear HO323; clear HB; have HO323 := n0_; have HO326 := n1_; have HB := n2_; clear n0_ n1_ n2_; (try clear hb); (try clear hb2); (try clear hk); (try clear hi); (try clear ho0)))
          go_ret
          exact ⟨_, by first | rfl | (simp [errW_none, errW_some] <;> rfl) | (simp only [← hji3]; first | rfl | (simp [errW_none, errW_some] <;> rfl)) | (simp [*, errW_none, errW_some] <;> rfl), by (with_reducible repeat (first | apply Kd.V_alloc | apply Kd.V_drewN | apply Kd.V_drew)); exact HO326.out, by repeat (first | (with_reducible first | exact HB.out | apply below_alloc | apply pw_below_drewN | apply below_drew1) | exact HB.out)⟩
        · rw [if_neg c10] at H
          exact absurd H (by simp)
end Go.Proofs.YtcoipojikmgdmaaDoor.P
end
section
namespace Go.Proofs.YtcoipojikmgdmaaDoor.P
open Go.RowKit Go.Proofs.YtcoipojikmgdmaaDoorW.PrintWords Go.Proofs.YtcoipojikmgdmaaDoorW.PrintLast Go.Proofs.YtcoipojikmgdmaaDoorW.PrintMore
attribute [local go_sem] max2_int min2_int max_two min_two max_three min_three max_four min_four
set_option linter.unusedVariables false
set_option linter.unusedSimpArgs false
def digB (b : UInt8) : Bool := decide (48 ≤ b.toNat) && decide (b.toNat ≤ 57)
def textB (s : ByteArray) : Bool := decide (0 < s.size) && !(decide (bt s 0 = 48) && decide (1 < s.size)) && s.data.toList.all digB
def readF (k : Nat) (s : ByteArray) : Nat → Nat → List Int → Option (List Int)
  | 0, _, out => some out
  | n + 1, pos, out => (nat_Of.f k 10).bind fun t => (nat_Mul.f k out t).bind fun m => (nat_Of.f k (bt s pos - 48)).bind fun c => (nat_Add.f k m c).bind fun o => readF k s n (pos + 1) o
def nat_Read.f (k : Nat) (s : ByteArray) : Option (List Int × Int) := if textB s = true then (readF k s s.size 0 []).bind fun o => some (o, 0) else some (([] : List Int), 17)
def oddR (r : Nat) : Bool := decide (r < 48) || decide (57 < r)
theorem bt_lit (s : ByteArray) (i : Nat) (h : i < s.size) : bt s (i : Int) = ((s[i]'h).toNat : Int) := (bt_at s i h).symm
theorem all_dig (s : ByteArray) (h : s.data.toList.all digB = true) (i : Nat) (hi : i < s.size) : 48 ≤ (s[i]'hi).toNat ∧ (s[i]'hi).toNat ≤ 57 := by
  have hm : s[i]'hi ∈ s.data.toList := by
    have : s[i]'hi = s.data[i] := rfl
    rw [this]
    simp
  have := List.all_eq_true.1 h _ hm
  simpa [digB] using this
theorem idx_none (s : ByteArray) (h : s.data.toList.all digB = true) : ∀ (f pos : Nat), Lib.idxFuncFrom oddR true s f pos = -1
  | 0, _ => rfl
  | f + 1, pos => by
    unfold Lib.idxFuncFrom
    by_cases hp : pos < s.size
    · obtain ⟨h1, h2⟩ := all_dig s h pos hp
      rw [if_pos hp, decode_ascii s pos hp (by omega), if_neg, idx_none s h f _]
      simp [oddR]
      omega
    · rw [if_neg hp]
theorem idx_some (s : ByteArray) (q : Nat) (hq : q < s.size) (hb : digB (s[q]'hq) = false) : ∀ (f pos : Nat), pos ≤ q → s.size ≤ pos + f → 0 ≤ Lib.idxFuncFrom oddR true s f pos
  | 0, pos, h1, h2 => by omega
  | f + 1, pos, h1, h2 => by
    unfold Lib.idxFuncFrom
    have hp : pos < s.size := by omega
    rw [if_pos hp]
    by_cases ha : (s[pos]'hp).toNat < 128
    · rw [decode_ascii s pos hp ha]
      by_cases ho : oddR (s[pos]'hp).toNat = true
      · rw [if_pos ho]
        omega
      · rw [if_neg ho]
        have hne : pos ≠ q := by
          rintro rfl
          apply ho
          simp [digB] at hb
          simp [oddR]
          omega
        exact idx_some s q hq hb f (pos + 1) (by omega) (by omega)
    · have hd := decode_high s pos hp (by omega)
      rw [if_pos (by simp [oddR]; omega)]
      omega
theorem idx_text (s : ByteArray) : decide (0 ≤ Lib.idxFunc oddR true s) = !(s.data.toList.all digB) := by
  unfold Lib.idxFunc
  cases h : s.data.toList.all digB with
  | true => rw [idx_none s h]; rfl
  | false =>
    obtain ⟨b, hb, hd⟩ := List.all_eq_false.1 h
    obtain ⟨q, hq, rfl⟩ := List.getElem_of_mem hb
    have hq' : q < s.size := by simpa using hq
    have e : s[q]'hq' = s.data.toList[q] := by simp; rfl
    rw [decide_eq_true (idx_some s q hq' (by rw [e]; simpa using hd) s.size 0 (by omega) (by omega))]
    rfl
section
open Go.Shelf
set_option maxHeartbeats 1000000 in
theorem read_odd (W : World) (x : Nat) (hx : x ≤ 1114111) : Calls Tryd.prog 49 #[.int .i32 (x : Int)] W fun e w' => e = .returned (.bool (oddR x)) ∧ ∃ q, w' = W.drewN q := by
  unfold oddR
  by_cases h1 : x < 48
  · have c1 : decide ((x : Int) < 48) = true := decide_eq_true (by omega)
    have c2 : decide (x < 48) = true := decide_eq_true h1
    rw [c2]
    go_enter Tryd.func49, Tryd.ntmps49
    go_wp2
    go_ret
    exact ⟨rfl, 0, rfl⟩
  · have c1 : decide ((x : Int) < 48) = false := decide_eq_false (by omega)
    have c2 : decide (x < 48) = false := decide_eq_false h1
    have c3 : decide ((x : Int) > 57) = decide (57 < x) := by
      by_cases h : 57 < x
      · rw [decide_eq_true h, decide_eq_true (by omega)]
      · rw [decide_eq_false h, decide_eq_false (by omega)]
    rw [c2, ← c3]
    clear c2 c3
    go_enter Tryd.func49, Tryd.ntmps49
    go_wp2
    go_ret
    exact ⟨rfl, 0, rfl⟩
end
section
open Go.Shelf
theorem odd_pred (w : World) : PredAtRunes Tryd.prog 49 #[] oddR w := fun W x hx _ => read_odd W x hx
theorem contains_odd (s : ByteArray) (w : World) (b : Bool) (hb : (!(s.data.toList.all digB)) = b) : Calls Tryd.prog 50 #[.string s, .func (.func 49) #[] #[]] w fun e w' => e = .returned (.bool b) ∧ Below w.heap.size w w' :=
  (Tryd.strings_ContainsFunc_runes 49 #[] (enters_ Tryd.func49 (by kernel_rfl) rfl) oddR s w (odd_pred w)).mono fun e w' h => by rw [idx_text, hb] at h; exact h
set_option maxHeartbeats 4000000 in
theorem nat_Read.off (a0 : ByteArray) (w : World) (h : textB a0 = false) :
    Calls Tryd.prog 29 #[.string a0] w fun e w' => ∃ v0_ : Value, e = .returned (.tuple #[v0_, .int .i64 17]) ∧ Kd.V (Kd.int .u64) 23 w' w.heap.size (fun k_ => (w.heap.size ≤ k_)) v0_ [] ∧ Below w.heap.size w w' := by
  by_cases h0 : a0.size = 0
  · have c3 : a0.toList = ([] : List UInt8) := by
      rw [Lib.toList_data]
      exact List.eq_nil_of_length_eq_zero (by simp [h0])
    have c3b0 : (a0.toList == ([] : List UInt8)) = true := beq_iff_eq.mpr c3
    clear c3 h h0
    go_enter Tryd.func29, Tryd.ntmps29
    go_wp2
    go_ret2
    exact ⟨_, rfl, Kd.V_nil _ _ _ _ _, Below.refl _ _⟩
  · have hp : 0 < a0.size := by omega
    have c3 : a0.toList ≠ ([] : List UInt8) := by
      rw [Lib.toList_data]
      intro h1
      have h2 : a0.data.toList.length = a0.size := by simp
      rw [h1] at h2
      simp at h2
      omega
    have c3b0 : (a0.toList == ([] : List UInt8)) = false := beq_eq_false_iff_ne.mpr c3
    have q5 : (0 < a0.size) = True := eq_true hp
    have qi5 : (0 < (a0.size : Int)) = True := eq_true (Int.natCast_pos.2 hp)
    have hx5 : ∀ h : 0 < a0.size, ((a0[0]'h).toNat : Int) = bt a0 0 := bt_at a0 0
    have d1 : decide (0 < a0.size) = true := decide_eq_true hp
    clear c3
    have tail : (a0.data.toList.all digB) = false → (bt a0 0 = 48 → ¬ 1 < a0.size) → Calls Tryd.prog 29 #[.string a0] w fun e w' => ∃ v0_ : Value, e = .returned (.tuple #[v0_, .int .i64 17]) ∧ Kd.V (Kd.int .u64) 23 w' w.heap.size (fun k_ => (w.heap.size ≤ k_)) v0_ [] ∧ Below w.heap.size w w' := by
      intro ha hzz
      have hb : (!(a0.data.toList.all digB)) = true := by rw [ha]; rfl
      by_cases hz : bt a0 0 = 48
      · have c6b0 : ((bt a0 0) == 48) = true := beq_iff_eq.mpr hz
        have h1 := hzz hz
        have c7b0 : decide ((a0.size : Int) > 1) = false := decide_eq_false (by omega)
        have c7b1 : decide (a0.size > 1) = false := decide_eq_false (by omega)
        have c7b2 : decide (1 < a0.size) = false := decide_eq_false (by omega)
        clear h h1 h0 hp hz hzz ha
        go_enter Tryd.func29, Tryd.ntmps29
        go_wp2_with (go_at_call 50; refine (contains_odd a0 _ true hb).mono ?_; rintro e w' ⟨rfl, hb1⟩)
        go_ret2
        exact ⟨_, rfl, Kd.V_nil _ _ _ _ _, hb1⟩
      · have c6b0 : ((bt a0 0) == 48) = false := beq_eq_false_iff_ne.mpr hz
        clear h h0 hp hz hzz ha
        go_enter Tryd.func29, Tryd.ntmps29
        go_wp2_with (go_at_call 50; refine (contains_odd a0 _ true hb).mono ?_; rintro e w' ⟨rfl, hb1⟩)
        go_ret2
        exact ⟨_, rfl, Kd.V_nil _ _ _ _ _, hb1⟩
    by_cases hz : bt a0 0 = 48
    · have c6b0 : ((bt a0 0) == 48) = true := beq_iff_eq.mpr hz
      by_cases h1 : 1 < a0.size
      · have c7b0 : decide ((a0.size : Int) > 1) = true := decide_eq_true (by omega)
        have c7b1 : decide (a0.size > 1) = true := decide_eq_true (by omega)
        clear h hz h1 h0 hp tail
        go_enter Tryd.func29, Tryd.ntmps29
        go_wp2
        go_ret2
        exact ⟨_, rfl, Kd.V_nil _ _ _ _ _, Below.refl _ _⟩
      · refine tail ?_ (fun _ => h1)
        unfold textB at h
        rw [d1, decide_eq_true hz, decide_eq_false h1] at h
        exact h
    · refine tail ?_ (fun h => absurd h hz)
      unfold textB at h
      rw [d1, decide_eq_false hz] at h
      exact h
set_option maxHeartbeats 4000000 in
theorem nat_Read.on (k : Nat) (a0 : ByteArray) (r1 : List Int) (w : World) (h : textB a0 = true) (hr : readF k a0 a0.size 0 [] = some r1) :
    Calls Tryd.prog 29 #[.string a0] w fun e w' => ∃ v0_ : Value, e = .returned (.tuple #[v0_, .int .i64 0]) ∧ Kd.V (Kd.int .u64) 23 w' w.heap.size (fun k_ => (w.heap.size ≤ k_)) v0_ r1 ∧ Below w.heap.size w w' := by
  have hd : a0.data.toList.all digB = true := by
    unfold textB at h
    simp only [Bool.and_eq_true] at h
    exact h.2
  have hp : 0 < a0.size := by
    unfold textB at h
    simp only [Bool.and_eq_true, decide_eq_true_eq] at h
    exact h.1.1
  have hzz : bt a0 0 = 48 → ¬ 1 < a0.size := by
    unfold textB at h
    simp only [Bool.and_eq_true, decide_eq_true_eq, Bool.not_eq_true', Bool.and_eq_false_iff, decide_eq_false_iff_not] at h
    intro h1
    rcases h.1.2 with h2 | h2
    · exact absurd h1 h2
    · exact h2
  have c3 : a0.toList ≠ ([] : List UInt8) := by
    rw [Lib.toList_data]
    intro h1
    have h2 : a0.data.toList.length = a0.size := by simp
    rw [h1] at h2
    simp at h2
    omega
  have c3b0 : (a0.toList == ([] : List UInt8)) = false := beq_eq_false_iff_ne.mpr c3
  have q5 : (0 < a0.size) = True := eq_true hp
  have qi5 : (0 < (a0.size : Int)) = True := eq_true (Int.natCast_pos.2 hp)
  have hx5 : ∀ h : 0 < a0.size, ((a0[0]'h).toNat : Int) = bt a0 0 := bt_at a0 0
  have HR := Aside0.mk hr
  have HD := Aside0.mk hd
  have hb : (!(a0.data.toList.all digB)) = false := by rw [hd]; rfl
  have HBB := Aside0.mk hb
  clear c3 hr h hd hb
  go_enter Tryd.func29, Tryd.ntmps29
  go_upto_region 2 with (fail)
  go_cut [24] (fun v24 wc => v24 = .bool false ∧ Aside0 (Below w.heap.size w wc))
  case first =>
    by_cases hz : bt a0 0 = 48
    · have c6b0 : ((bt a0 0) == 48) = true := beq_iff_eq.mpr hz
      have h1 := hzz hz
      have c7b0 : decide ((a0.size : Int) > 1) = false := decide_eq_false (by omega)
      have c7b1 : decide (a0.size > 1) = false := decide_eq_false (by omega)
      have c7b2 : decide (1 < a0.size) = false := decide_eq_false (by omega)
      clear h1 hp hz hzz
      go_wp2_with (go_at_call 50; refine (contains_odd a0 _ false HBB.out).mono ?_; rintro e w' ⟨rfl, hb1⟩)
      go_meet
      case rel => exact ⟨rfl, ⟨hb1⟩⟩
    · have c6b0 : ((bt a0 0) == 48) = false := beq_eq_false_iff_ne.mpr hz
      clear hp hz hzz
      go_wp2_with (go_at_call 50; refine (contains_odd a0 _ false HBB.out).mono ?_; rintro e w' ⟨rfl, hb1⟩)
      go_meet
      case rel => exact ⟨rfl, ⟨hb1⟩⟩
  case rest =>
    try clear hp hzz qi5 q5 hx5 c3b0
    obtain ⟨rfl, HB⟩ := hcut
    go_wp2
    go_loopg [5] a0.size (fun gk v5 w' => ∃ (pos : Nat) (out : List Int), pos + gk = a0.size ∧ Aside0 (readF k a0 gk pos out = some r1) ∧ Aside0 (w'.heap[wc.heap.size]? = some (.stringIter a0 pos)) ∧ Aside0 (Kd.V (Kd.int .u64) 23 w' w.heap.size (fun q => w.heap.size ≤ q ∧ q ≠ wc.heap.size) v5 out) ∧ Aside0 (Below w.heap.size w w'))
    case atStart => exact ⟨0, [], by omega, HR, ⟨World.iter_heap wc a0 0⟩, ⟨Kd.V_nil _ _ _ _ _⟩, ⟨below_alloc HB.out _⟩⟩
    case round =>
      have hK0 : w.heap.size ≤ wc.heap.size := HB.out.size
      have HK0 := Aside0.mk hK0
      clear HB hK0 HR
      obtain ⟨pos, out, hpos, HR, HI, HO, HB⟩ := hrel
      cases gk with
      | zero =>
        have hrun : ∀ ty, (Instr.next (.pointer (some ⟨wc.heap.size, 0, none⟩)) true ty).run Tryd.prog wr = .ok (.tuple #[.bool false]) wr := fun ty => Lib.run_next_end_at wr wc.heap.size a0 pos ty HI.out (by omega)
        have hr := HR.out
        simp only [readF, Option.some.injEq] at hr
        subst hr
        go_wp2
        go_ret2
        exact ⟨_, rfl, Kd.V_mono HO.out (fun q hq => hq.1), HB.out⟩
      | succ g =>
        have hlt : pos < a0.size := by omega
        obtain ⟨d1, d2⟩ := all_dig a0 HD.out pos hlt
        have hbt := bt_lit a0 pos hlt
        obtain ⟨b, hb⟩ : ∃ b : Nat, b = (a0[pos]'hlt).toNat := ⟨_, rfl⟩
        have hrun : ∀ ty, (Instr.next (.pointer (some ⟨wc.heap.size, 0, none⟩)) true ty).run Tryd.prog wr = .ok (.tuple #[.bool true, .int .i64 pos, .int .i32 (b : Int)]) (wr.iterAt wc.heap.size a0 (pos + 1)) := fun ty => by
          rw [hb]
          exact Lib.run_next_ascii_at wr wc.heap.size a0 pos ty HI.out hlt (by omega)
        rw [← hb] at d1 d2 hbt
        have HBT := Aside0.mk hbt
        have HI1 := Aside0.mk (Lib.iterAt_heap wr wc.heap.size a0 pos (pos + 1) HI.out)
        have HO1 : Aside0 (Kd.V (Kd.int .u64) 23 (wr.iterAt wc.heap.size a0 (pos + 1)) w.heap.size (fun q => w.heap.size ≤ q ∧ q ≠ wc.heap.size) u5 out) := ⟨Kd.V_step HO.out (fun q hq _ => Lib.iterAt_other wr wc.heap.size q a0 (pos + 1) hq.2)⟩
        have HB1 := Aside0.mk (Lib.below_iterAt HB.out HK0.out a0 (pos + 1))
        have hd1 : (48 : Int) ≤ (b : Int) := by omega
        have hd2 : (b : Int) ≤ 57 := by omega
        have hpos2 := Aside0.mk hpos
        clear hb hbt hlt d1 d2 HO HI HB hpos
        have hr := HR.out
        simp only [readF] at hr
        obtain ⟨t1, e1, hr⟩ := Option.bind_eq_some_iff.mp hr
        obtain ⟨t2, e2, hr⟩ := Option.bind_eq_some_iff.mp hr
        obtain ⟨t3, e3, hr⟩ := Option.bind_eq_some_iff.mp hr
        obtain ⟨t4, e4, hr⟩ := Option.bind_eq_some_iff.mp hr
        rw [HBT.out] at e3
        have E1 := Aside0.mk e1
        have E2 := Aside0.mk e2
        have E3 := Aside0.mk e3
        have E4 := Aside0.mk e4
        have HR1 := Aside0.mk hr
        clear e1 e2 e3 e4 hr HR
        obtain ⟨A, c, rfl⟩ := Kd.V_slice HO1.out
        obtain ⟨W, hW⟩ : ∃ W, W = wr.iterAt wc.heap.size a0 (pos + 1) := ⟨_, rfl⟩
        rw [← hW] at HI1 HO1 HB1 hrun
        have HW := Aside0.mk hW
        clear hW
        go_wp2_with fail
        go_at_call 17
        refine (nat_Of.calls k 10 t1 _ E1.out).mono ?_
        rintro e w1 ⟨v1, rfl, ho1, hb1⟩
        obtain ⟨A1, c1, rfl⟩ := Kd.V_slice ho1
        have HO2 := Aside0.mk (Kd.V_below HO1.out hb1)
        have HI2 : Aside0 (w1.heap[wc.heap.size]? = some (.stringIter a0 (pos + 1))) := ⟨(hb1.block _ (blk_lt HI1.out)).trans HI1.out⟩
        have HB2 := Aside0.mk (HB1.out.trans (hb1.mono HB1.out.size))
        have HV1 := Aside0.mk ho1
        clear ho1 hb1 HO1 HI1 HB1
        go_wp2_with fail
        go_at_call 21
        obtain ⟨_, y1, y2⟩ := Kd.V_reads' HO2.out
        obtain ⟨_, y3, y4⟩ := Kd.V_reads' HV1.out
        refine (nat_Mul.calls k A c out A1 c1 t1 t2 _ y2 y1 y4 y3 E2.out).mono ?_
        clear y1 y2 y3 y4
        rintro e w2 ⟨v2, rfl, ho2, hb2⟩
        obtain ⟨A2, c2, rfl⟩ := Kd.V_slice ho2
        have HI3 : Aside0 (w2.heap[wc.heap.size]? = some (.stringIter a0 (pos + 1))) := ⟨(hb2.block _ (blk_lt HI2.out)).trans HI2.out⟩
        have HB3 := Aside0.mk (HB2.out.trans (hb2.mono HB2.out.size))
        have HV2 := Aside0.mk ho2
        clear ho2 hb2 HO2 HI2 HB2 HV1
        go_wp2_with fail
        go_at_call 17
        refine (nat_Of.calls k ((b : Int) - 48) t3 _ E3.out).mono ?_
        rintro e w3 ⟨v3, rfl, ho3, hb3⟩
        obtain ⟨A3, c3, rfl⟩ := Kd.V_slice ho3
        have HV2' := Aside0.mk (Kd.V_below HV2.out hb3)
        have HI4 : Aside0 (w3.heap[wc.heap.size]? = some (.stringIter a0 (pos + 1))) := ⟨(hb3.block _ (blk_lt HI3.out)).trans HI3.out⟩
        have HB4 := Aside0.mk (HB3.out.trans (hb3.mono HB3.out.size))
        have HV3 := Aside0.mk ho3
        clear ho3 hb3 HV2 HI3 HB3
        go_wp2_with fail
        go_at_call 25
        obtain ⟨_, y1, y2⟩ := Kd.V_reads' HV2'.out
        obtain ⟨_, y3, y4⟩ := Kd.V_reads' HV3.out
        refine (nat_Add.calls k A2 c2 t2 A3 c3 t3 t4 _ y2 y1 y4 y3 E4.out).mono ?_
        clear y1 y2 y3 y4
        rintro e w4 ⟨v4, rfl, ho4, hb4⟩
        obtain ⟨A4, c4, rfl⟩ := Kd.V_slice ho4
        have HI5 : Aside0 (w4.heap[wc.heap.size]? = some (.stringIter a0 (pos + 1))) := ⟨(hb4.block _ (blk_lt HI4.out)).trans HI4.out⟩
        have HB5 := Aside0.mk (HB4.out.trans (hb4.mono HB4.out.size))
        have hle : wc.heap.size < w3.heap.size := blk_lt HI4.out
        have hle2 : w.heap.size ≤ w3.heap.size := HB4.out.size
        have HV4 : Aside0 (Kd.V (Kd.int .u64) 23 w4 w.heap.size (fun q => w.heap.size ≤ q ∧ q ≠ wc.heap.size) (.slice A4 t4.length c4) t4) := ⟨Kd.V_lower (Kd.V_mono ho4 (fun q hq => ⟨by omega, by omega⟩)) hle2⟩
        clear ho4 hb4 HV2' HI4 HB4 hle hle2 HV3
        go_wp2_with fail
        go_roundg g
        case measure => omega
        case rel => exact ⟨pos + 1, t4, by have := hpos2.out; omega, HR1, HI5, HV4, HB5⟩
end
theorem nat_Read.calls (k : Nat) (a0 : ByteArray) (r1 : List Int) (r2 : Int) (w : World) (h : nat_Read.f k a0 = some (r1, r2)) :
    Calls Tryd.prog 29 #[.string a0] w fun e w' => ∃ v0_ : Value, e = .returned (.tuple #[v0_, .int .i64 r2]) ∧ Kd.V (Kd.int .u64) 23 w' w.heap.size (fun k_ => (w.heap.size ≤ k_)) v0_ r1 ∧ Below w.heap.size w w' := by
  unfold nat_Read.f at h
  by_cases ht : textB a0 = true
  · rw [if_pos ht] at h
    obtain ⟨o, ho, h⟩ := Option.bind_eq_some_iff.mp h
    simp only [Option.some.injEq, Prod.mk.injEq] at h
    obtain ⟨rfl, rfl⟩ := h
    exact nat_Read.on k a0 o w ht ho
  · rw [if_neg ht] at h
    simp only [Option.some.injEq, Prod.mk.injEq] at h
    obtain ⟨rfl, rfl⟩ := h
    exact nat_Read.off a0 w (Bool.eq_false_iff.2 ht)
end Go.Proofs.YtcoipojikmgdmaaDoor.P
end
section
namespace Go.Proofs.YtcoipojikmgdmaaDoor.P
open Go.RowKit Go.Proofs.YtcoipojikmgdmaaDoorW.PrintWords Go.Proofs.YtcoipojikmgdmaaDoorW.PrintLast Go.Proofs.YtcoipojikmgdmaaDoorW.PrintMore
attribute [local go_sem] max2_int min2_int max_two min_two max_three min_three max_four min_four
set_option linter.unusedVariables false
set_option linter.unusedSimpArgs false
def nat_Small.f (l0 : List Int) : Option (Int × Bool) := if (l0.length : Int) > 1 then (some (0, false)) else ((nat_Nat_at.f l0 0).bind fun t609 => (if t609 > 4611686018427387904 then (some (0, false)) else ((nat_Nat_at.f l0 0).bind fun t610 => (some (wrap64 (t610), true)))))
set_option maxHeartbeats 8000000 in
set_option maxRecDepth 100000 in
theorem nat_Small.calls (A0 : Option Addr) (c0 : Nat) (l0 : List Int) (r1 : Int) (r2 : Bool) (w : World) (hr0 : Kd.C (Kd.int .u64) w A0 l0.length l0) (hc0 : l0.length ≤ c0) (h : nat_Small.f l0 = some (r1, r2)) :
    Calls Tryd.prog 35 #[.slice A0 l0.length c0] w fun e w' => e = .returned (.tuple #[.int .i64 r1, .bool r2]) ∧ Drawn0 w w' := by
  have HR0 := Aside0.mk hr0
  have HC0 := Aside0.mk hc0
  clear hr0 hc0
  have H : (if (l0.length : Int) > 1 then (some (0, false)) else ((nat_Nat_at.f l0 0).bind fun t609 => (if t609 > 4611686018427387904 then (some (0, false)) else ((nat_Nat_at.f l0 0).bind fun t610 => (some (wrap64 (t610), true)))))) = some (r1, r2) := h
  clear h
  by_cases c2 : (l0.length : Int) > 1
  · rw [if_pos c2] at H
    have c2b0 : decide (1 < (l0.length : Int)) = true := decide_eq_true c2
    have c2b1 : decide (1 < l0.length) = true := decide_eq_true (by omega)
    clear c2
    simp only [Option.some.injEq, Prod.mk.injEq] at H
    obtain ⟨rfl, rfl⟩ := H
    go_enter Tryd.func35, Tryd.ntmps35
    go_wp2
    go_ret2
    exact ⟨by first | rfl | (simp; done) | (simp [*]; done), by repeat (first | exact Drawn0.refl _ | apply Drawn0.step)⟩
  · rw [if_neg c2] at H
    have c2b0 : decide (1 < (l0.length : Int)) = false := decide_eq_false c2
    have c2b1 : decide (1 < l0.length) = false := decide_eq_false (by omega)
    clear c2
    replace H := Option.bind_eq_some_iff.mp H
    obtain ⟨t609, A30, H⟩ := H
    replace H : (if t609 > 4611686018427387904 then (some (0, false)) else ((nat_Nat_at.f l0 0).bind fun t610 => (some (wrap64 (t610), true)))) = some (r1, r2) := H
    have A3 := Aside0.mk A30
    clear A30
    by_cases c4 : t609 > 4611686018427387904
    · rw [if_pos c4] at H
      have c4b0 : decide (4611686018427387904 < t609) = true := decide_eq_true c4
      clear c4
      simp only [Option.some.injEq, Prod.mk.injEq] at H
      obtain ⟨rfl, rfl⟩ := H
      go_enter Tryd.func35, Tryd.ntmps35
      go_wp2_with (first | (go_at_call 47; (with_reducible refine (nat_Nat_at.calls _ _ l0 0 t609 _ ?side1 ?side2 A3.out).mono ?_); (case side1 => repeat (first | exact HR0.out | (with_reducible refine Kd.C_alloc ?_ _) | (with_reducible refine Kd.C_drewN ?_ _) | (with_reducible refine Kd.C_drew ?_))); (case side2 => exact HC0.out); rintro e w' ⟨rfl, ⟨nd, rfl⟩⟩))
      go_ret2
      exact ⟨by first | rfl | (simp; done) | (simp [*]; done), by repeat (first | exact Drawn0.refl _ | apply Drawn0.step)⟩
    · rw [if_neg c4] at H
      have c4b0 : decide (4611686018427387904 < t609) = false := decide_eq_false c4
      clear c4
      replace H := Option.bind_eq_some_iff.mp H
      obtain ⟨t610, A50, H⟩ := H
      replace H : (some (wrap64 (t610), true)) = some (r1, r2) := H
      have A5 := Aside0.mk A50
      clear A50
      simp only [Option.some.injEq, Prod.mk.injEq] at H
      obtain ⟨rfl, rfl⟩ := H
      go_enter Tryd.func35, Tryd.ntmps35
      go_wp2_with (first | (go_at_call 47; (with_reducible refine (nat_Nat_at.calls _ _ l0 0 t609 _ ?side1 ?side2 A3.out).mono ?_); (case side1 => repeat (first | exact HR0.out | (with_reducible refine Kd.C_alloc ?_ _) | (with_reducible refine Kd.C_drewN ?_ _) | (with_reducible refine Kd.C_drew ?_))); (case side2 => exact HC0.out); rintro e w' ⟨rfl, ⟨nd, rfl⟩⟩) | ((with_reducible refine gate_callee (f := 47) rfl ?_); refine goesL_ (some 13) rfl rfl Tryd.func47 (by kernel_rfl) rfl #[.slice A0 l0.length c0, .int .i64 0] rfl (by (try simp only [List.map_toArray, List.map_cons, List.map_nil]); first | done | rfl | (simp only [List.length_drop, List.length_take]; rfl) | ((simp [Act.eval, wrap64]) <;> omega) | ((simp [Act.eval, wrap64, IntKind.wrap, IntKind.bits, IntKind.signed]) <;> omega)) ?_; (with_reducible refine (nat_Nat_at.calls _ _ l0 0 t610 _ ?side1 ?side2 A5.out).mono ?_); (case side1 => repeat (first | exact HR0.out | (with_reducible refine Kd.C_alloc ?_ _) | (with_reducible refine Kd.C_drewN ?_ _) | (with_reducible refine Kd.C_drew ?_))); (case side2 => exact HC0.out); rintro e w' ⟨rfl, ⟨nd, rfl⟩⟩; refine ⟨_, rfl, ?_⟩))
      go_ret2
      exact ⟨by first | rfl | (simp; done) | (simp [*]; done), by repeat (first | exact Drawn0.refl _ | apply Drawn0.step)⟩
end Go.Proofs.YtcoipojikmgdmaaDoor.P
end
section
namespace Go.Proofs.YtcoipojikmgdmaaDoor.P
open Go.RowKit Go.Proofs.YtcoipojikmgdmaaDoorW.PrintWords Go.Proofs.YtcoipojikmgdmaaDoorW.PrintLast Go.Proofs.YtcoipojikmgdmaaDoorW.PrintMore
attribute [local go_sem] max2_int min2_int max_two min_two max_three min_three max_four min_four
set_option linter.unusedVariables false
set_option linter.unusedSimpArgs false
mutual
def roundelref02_Text.l0 : Nat → List Int → ByteArray → Int → Int → Option (ByteArray)
  | 0, _, _, _, _ => none
  | k + 1, x0, x3, x10, x11 => if x11 < x10 then (if 0 ≤ x11 then (if x11 < (x0.length : Int) then (roundelref02_Text.l1 k x0 x3 (rd x0 x11) x10 x11 0) else (none)) else (none)) else (roundelref02_Text.l2 k x3)
def roundelref02_Text.l1 : Nat → List Int → ByteArray → Int → Int → Int → Int → Option (ByteArray)
  | 0, _, _, _, _, _, _ => none
  | k + 1, x0, x3, x5, x10, x11, x18 => if x18 < 4 then (if 0 ≤ (Int.tmod x5 10) then (if (Int.tmod x5 10) ≤ (wrap64 ((Int.tmod x5 10) + 1)) then (if (wrap64 ((Int.tmod x5 10) + 1)) ≤ 10 then (if ((⟨#[48, 49, 50, 51, 52, 53, 54, 55, 56, 57]⟩ : ByteArray).extract ((Int.tmod x5 10) : Int).toNat ((wrap64 ((Int.tmod x5 10) + 1)) : Int).toNat).size + x3.size ≤ 9223372036854775807 then (roundelref02_Text.l1 k x0 (((⟨#[48, 49, 50, 51, 52, 53, 54, 55, 56, 57]⟩ : ByteArray).extract ((Int.tmod x5 10) : Int).toNat ((wrap64 ((Int.tmod x5 10) + 1)) : Int).toNat) ++ x3) (wrap64 (Int.tdiv x5 10)) x10 x11 (wrap64 (x18 + 1))) else (none)) else (none)) else (none)) else (none)) else (roundelref02_Text.l0 k x0 x3 x10 (wrap64 (x11 + 1)))
def roundelref02_Text.l2 : Nat → ByteArray → Option (ByteArray)
  | 0, _ => none
  | k + 1, x3 => if 0 < (x3.size : Int) then (if (bt x3 0) = 48 then (if 1 ≤ (x3.size : Int) then (roundelref02_Text.l2 k (x3.extract 1 x3.size)) else (none)) else (some x3)) else (none)
end
def roundelref02_Text.f (k : Nat) (l0 : List Int) : Option (ByteArray) := if (l0.length : Int) = 0 then (some (⟨#[48]⟩ : ByteArray)) else (roundelref02_Text.l0 k l0 (⟨#[]⟩ : ByteArray) (l0.length : Int) 0)
set_option maxHeartbeats 8000000 in
set_option maxRecDepth 100000 in
theorem roundelref02_Text.calls (k : Nat) (A0 : Option Addr) (c0 : Nat) (l0 : List Int) (r : ByteArray) (w : World) (hr0 : Kd.C (Kd.int .i64) w A0 l0.length l0) (hc0 : l0.length ≤ c0) (h : roundelref02_Text.f k l0 = some r) :
    Calls Tryd.prog 36 #[.slice A0 l0.length c0] w fun e w' => e = .returned (.string r) ∧ Drawn0 w w' := by
  have HR0 := Aside0.mk hr0
  have HC0 := Aside0.mk hc0
  clear hr0 hc0
  have H : (if (l0.length : Int) = 0 then (some (⟨#[48]⟩ : ByteArray)) else (roundelref02_Text.l0 k l0 (⟨#[]⟩ : ByteArray) (l0.length : Int) 0)) = some r := h
  clear h
  by_cases c2 : (l0.length : Int) = 0
  · rw [if_pos c2] at H
    have c2b0 : ((l0.length : Int) == 0) = true := beq_iff_eq.mpr c2
    have c2b1 : ((l0.length : Int) != 0) = false := bne_eq_false_iff_eq.mpr c2
    clear c2
    obtain rfl := Option.some.inj H
    go_enter Tryd.func36, Tryd.ntmps36
    go_wp2
    go_ret
    exact ⟨by first | rfl | (simp; done) | (simp [*]; done), by repeat (first | exact Drawn0.refl _ | apply Drawn0.step)⟩
  · rw [if_neg c2] at H
    have c2b0 : ((l0.length : Int) == 0) = false := beq_eq_false_iff_ne.mpr c2
    have c2b1 : ((l0.length : Int) != 0) = true := bne_iff_ne.mpr c2
    have c2b2 : ¬ (l0 = []) := fun h_ => c2 (by rw [h_]; rfl)
    have H' := Aside0.mk H
    clear H
    go_enter Tryd.func36, Tryd.ntmps36
    go_wp2
    go_loopg [3, 11] k (fun kq v3 v11 w' => ∃ (x3_1 : ByteArray) (x11_1 : Int), v3 = .string x3_1 ∧ v11 = .int .i64 x11_1 ∧ Aside0 (roundelref02_Text.l0 kq l0 x3_1 (l0.length : Int) x11_1 = some r) ∧ Aside0 (kq ≤ k) ∧ Drawn0 w w')
    case atStart => exact ⟨((⟨#[]⟩ : ByteArray)), (0), (by first | rfl | (simp; done) | (simp [*]; done)), (by first | rfl | (simp; done) | (simp [*]; done)), H', ⟨Nat.le_refl _⟩, by repeat (first | exact Drawn0.refl _ | apply Drawn0.step)⟩
    case round =>
      clear H'
      try clear c2
      try clear c2b0
      try clear c2b1
      try clear c2b2
      try clear p2
      obtain ⟨x3_1, x11_1, rfl, rfl, HA, HK1, ⟨m1, rfl⟩⟩ := hrel
      cases gk with
      | zero => exact absurd HA.out (by simp [roundelref02_Text.l0])
      | succ k1 =>
        have H := HA.out
        clear HA
        simp only [roundelref02_Text.l0] at H
        by_cases c3 : x11_1 < (l0.length : Int)
        · rw [if_pos c3] at H
          have c3b0 : decide (x11_1 < (l0.length : Int)) = true := decide_eq_true c3
          clear c3
          by_cases c4 : 0 ≤ x11_1
          · rw [if_pos c4] at H
            have c4b0 : decide (0 ≤ x11_1) = true := decide_eq_true c4
            clear c4
            by_cases c5 : x11_1 < (l0.length : Int)
            · rw [if_pos c5] at H
              have c5b0 : decide (x11_1 < (l0.length : Int)) = true := decide_eq_true c5
              clear c5
              have H' := Aside0.mk H
              clear H
              have p611 : 0 ≤ (x11_1 : Int) := of_decide_eq_true (by first | (with_reducible assumption) | assumption)
              have q611 : x11_1 < (l0.length : Int) := of_decide_eq_true (by first | (with_reducible assumption) | assumption)
              obtain ⟨ad611, e611, hx611_0⟩ := Kd.at_int HR0.out x11_1 p611 q611
              cases e611
              replace p611 := eq_true p611
              replace q611 := eq_true q611
              go_wp2
              go_loopg [3, 5, 18] k1 (fun kq v3 v5 v18 w' => ∃ (x3_2 : ByteArray) (x5_2 : Int) (x18_2 : Int), v3 = .string x3_2 ∧ v5 = .int .i64 x5_2 ∧ v18 = .int .i64 x18_2 ∧ Aside0 (roundelref02_Text.l1 kq l0 x3_2 x5_2 (l0.length : Int) x11_1 x18_2 = some r) ∧ Aside0 (kq ≤ k1) ∧ Drawn0 w w')
              case atStart => exact ⟨(x3_1), (rd l0 x11_1), (0), (by first | rfl | (simp; done) | (simp [*]; done)), (by first | rfl | (simp; done) | (simp [*]; done)), (by first | rfl | (simp; done) | (simp [*]; done)), H', ⟨Nat.le_refl _⟩, by repeat (first | exact Drawn0.refl _ | apply Drawn0.step)⟩
              case round =>
                clear H'
                try clear c2
                try clear c2b0
                try clear c2b1
                try clear c2b2
                try clear p2
                try clear c3
                try clear c3b0
                try clear c4
                try clear c4b0
                try clear c5
                try clear c5b0
                try clear hx611_0
                try clear p2
                try clear p611
                try clear q611
                obtain ⟨x3_2, x5_2, x18_2, rfl, rfl, rfl, HA, HK2, ⟨m2, rfl⟩⟩ := hrel
                cases gk with
                | zero => exact absurd HA.out (by simp [roundelref02_Text.l1])
                | succ k2 =>
                  have H := HA.out
                  clear HA
                  simp only [roundelref02_Text.l1] at H
                  by_cases c6 : x18_2 < 4
                  · rw [if_pos c6] at H
                    have c6b0 : decide (x18_2 < 4) = true := decide_eq_true c6
                    clear c6
                    obtain ⟨ji7, hji7⟩ : ∃ j_ : Int, (Int.tmod x5_2 10) = j_ := ⟨_, rfl⟩
                    replace H : (if 0 ≤ (ji7) then (if (ji7) ≤ (wrap64 ((ji7) + 1)) then (if (wrap64 ((ji7) + 1)) ≤ 10 then (if ((⟨#[48, 49, 50, 51, 52, 53, 54, 55, 56, 57]⟩ : ByteArray).extract ((ji7) : Int).toNat ((wrap64 ((ji7) + 1)) : Int).toNat).size + x3_2.size ≤ 9223372036854775807 then (roundelref02_Text.l1 k2 l0 (((⟨#[48, 49, 50, 51, 52, 53, 54, 55, 56, 57]⟩ : ByteArray).extract ((ji7) : Int).toNat ((wrap64 ((ji7) + 1)) : Int).toNat) ++ x3_2) (wrap64 (Int.tdiv x5_2 10)) (l0.length : Int) x11_1 (wrap64 (x18_2 + 1))) else (none)) else (none)) else (none)) else (none)) = some r := by first | (rw [hji7] at H; exact H) | (simp only [hji7] at H ⊢; exact H)
                    by_cases c8 : 0 ≤ (ji7)
                    · rw [if_pos c8] at H
                      have c8b0 := eq_true c8
                      have c8b1 : decide (0 ≤ (ji7)) = true := decide_eq_true c8
                      clear c8
                      by_cases c9 : (ji7) ≤ (wrap64 ((ji7) + 1))
                      · rw [if_pos c9] at H
                        have c9b0 := eq_true c9
                        have c9b1 : decide ((ji7) ≤ (wrap64 ((ji7) + 1))) = true := decide_eq_true c9
                        by_cases c10 : (wrap64 ((ji7) + 1)) ≤ 10
                        · rw [if_pos c10] at H
                          have c10b0 := eq_true c10
                          have c10b1 : decide ((wrap64 ((ji7) + 1)) ≤ 10) = true := decide_eq_true c10
                          by_cases c11 : ((⟨#[48, 49, 50, 51, 52, 53, 54, 55, 56, 57]⟩ : ByteArray).extract ((ji7) : Int).toNat ((wrap64 ((ji7) + 1)) : Int).toNat).size + x3_2.size ≤ 9223372036854775807
                          · rw [if_pos c11] at H
                            have c11b0 := eq_true c11
                            have c11b1 : decide (((⟨#[48, 49, 50, 51, 52, 53, 54, 55, 56, 57]⟩ : ByteArray).extract ((ji7) : Int).toNat ((wrap64 ((ji7) + 1)) : Int).toNat).size + x3_2.size ≤ 9223372036854775807) = true := decide_eq_true c11
                            try have c11b2 : (9223372036854775807 < ((⟨#[48, 49, 50, 51, 52, 53, 54, 55, 56, 57]⟩ : ByteArray).extract ((ji7) : Int).toNat ((wrap64 ((ji7) + 1)) : Int).toNat).size + x3_2.size) = False := eq_false (Nat.not_lt.2 c11)
                            have H' := Aside0.mk H
                            clear H
                            go_wp2
                            go_roundg k2
                            case measure => have := HK1.out; have := HK2.out; omega
                            case rel => exact ⟨(((⟨#[48, 49, 50, 51, 52, 53, 54, 55, 56, 57]⟩ : ByteArray).extract ((ji7) : Int).toNat ((wrap64 ((ji7) + 1)) : Int).toNat) ++ x3_2), (wrap64 (Int.tdiv x5_2 10)), (wrap64 (x18_2 + 1)), (by first | rfl | (simp; done) | (simp only [← hji7] <;> (first | rfl | simp)) | (simp [*]; done)), (by first | rfl | (simp; done) | (simp [*]; done)), (by first | rfl | (simp; done) | (simp [*]; done)), H', ⟨by have := HK1.out; have := HK2.out; omega⟩, by repeat (first | exact Drawn0.refl _ | apply Drawn0.step)⟩
                          · rw [if_neg c11] at H
                            exact absurd H (by simp)
                        · rw [if_neg c10] at H
                          exact absurd H (by simp)
                      · rw [if_neg c9] at H
                        exact absurd H (by simp)
                    · rw [if_neg c8] at H
                      exact absurd H (by simp)
                  · rw [if_neg c6] at H
                    have c6b0 : decide (x18_2 < 4) = false := decide_eq_false c6
                    clear c6
                    have H' := Aside0.mk H
                    clear H
                    go_wp2
                    go_roundg k2
                    case measure => have := HK1.out; have := HK2.out; omega
                    case rel => exact ⟨(x3_2), (wrap64 (x11_1 + 1)), (by first | rfl | (simp; done) | (simp [*]; done)), (by first | rfl | (simp; done) | (simp [*]; done)), H', ⟨by have := HK1.out; have := HK2.out; omega⟩, by repeat (first | exact Drawn0.refl _ | apply Drawn0.step)⟩
            · rw [if_neg c5] at H
              exact absurd H (by simp)
          · rw [if_neg c4] at H
            exact absurd H (by simp)
        · rw [if_neg c3] at H
          have c3b0 : decide (x11_1 < (l0.length : Int)) = false := decide_eq_false c3
          clear c3
          have H' := Aside0.mk H
          clear H
          go_wp2
          go_loopg [3] k1 (fun kq v3 w' => ∃ (x3_2 : ByteArray), v3 = .string x3_2 ∧ Aside0 (roundelref02_Text.l2 kq x3_2 = some r) ∧ Aside0 (kq ≤ k1) ∧ Drawn0 w w')
          case atStart => exact ⟨(x3_1), (by first | rfl | (simp; done) | (simp [*]; done)), H', ⟨Nat.le_refl _⟩, by repeat (first | exact Drawn0.refl _ | apply Drawn0.step)⟩
          case round =>
            clear H'
            try clear c1
            try clear c2
            try clear c2b0
            try clear c2b1
            try clear c2b2
            try clear p2
            try clear c3
            try clear c3b0
            try clear c4
            try clear c4b0
            try clear c5
            try clear c5b0
            try clear c6
            try clear c6b0
            try clear p6
            try clear q6
            try clear hx6
            try clear c8
            try clear c8b0
            try clear c8b1
            try clear c9
            try clear c9b0
            try clear c9b1
            try clear c10
            try clear c10b0
            try clear c10b1
            try clear c11
            try clear c11b0
            try clear c11b1
            try clear c11b2
            try clear hx611_0
            try clear p2
            try clear p611
            try clear q611
            obtain ⟨x3_2, rfl, HA, HK2, ⟨m2, rfl⟩⟩ := hrel
            cases gk with
            | zero => exact absurd HA.out (by simp [roundelref02_Text.l2])
            | succ k2 =>
              have H := HA.out
              clear HA
              simp only [roundelref02_Text.l2] at H
              by_cases c12 : 0 < (x3_2.size : Int)
              · rw [if_pos c12] at H
                have c12b0 : decide (0 < (x3_2.size : Int)) = true := decide_eq_true c12
                have c12b1 : decide (0 < x3_2.size) = true := decide_eq_true (by omega)
                clear c12
                by_cases c14 : (bt x3_2 0) = 48
                · rw [if_pos c14] at H
                  have c14b0 : ((bt x3_2 0) == 48) = true := beq_iff_eq.mpr c14
                  have c14b1 : ((bt x3_2 0) != 48) = false := bne_eq_false_iff_eq.mpr c14
                  clear c14
                  by_cases c15 : 1 ≤ (x3_2.size : Int)
                  · rw [if_pos c15] at H
                    have c15b0 := eq_true c15
                    have c15b1 : decide (1 ≤ (x3_2.size : Int)) = true := decide_eq_true c15
                    clear c15
                    have H' := Aside0.mk H
                    clear H
                    have p13 : 0 ≤ (0 : Int) := (by omega)
                    have q13 : 0 < x3_2.size := (by have : (0 : Int) < (x3_2.size : Int) := of_decide_eq_true (by first | (with_reducible assumption) | assumption); omega)
                    have hx13 : ∀ h : 0 < x3_2.size, ((x3_2[0]'h).toNat : Int) = bt x3_2 0 := bt_at x3_2 0
                    clear p13
                    have qi13 : (0 < (x3_2.size : Int)) = True := eq_true (of_decide_eq_true (by first | (with_reducible assumption) | assumption))
                    replace q13 := eq_true q13
                    go_wp2
                    go_roundg k2
                    case measure => have := HK1.out; have := HK2.out; omega
                    case rel => exact ⟨(x3_2.extract 1 x3_2.size), (by first | rfl | (simp; done) | (simp [*]; done)), H', ⟨by have := HK1.out; have := HK2.out; omega⟩, by repeat (first | exact Drawn0.refl _ | apply Drawn0.step)⟩
                  · rw [if_neg c15] at H
                    exact absurd H (by simp)
                · rw [if_neg c14] at H
                  have c14b0 : ((bt x3_2 0) == 48) = false := beq_eq_false_iff_ne.mpr c14
                  have c14b1 : ((bt x3_2 0) != 48) = true := bne_iff_ne.mpr c14
                  obtain rfl := Option.some.inj H
                  have p13 : 0 ≤ (0 : Int) := (by omega)
                  have q13 : 0 < x3_2.size := (by have : (0 : Int) < (x3_2.size : Int) := of_decide_eq_true (by first | (with_reducible assumption) | assumption); omega)
                  have hx13 : ∀ h : 0 < x3_2.size, ((x3_2[0]'h).toNat : Int) = bt x3_2 0 := bt_at x3_2 0
                  clear p13
                  have qi13 : (0 < (x3_2.size : Int)) = True := eq_true (of_decide_eq_true (by first | (with_reducible assumption) | assumption))
                  replace q13 := eq_true q13
                  go_wp2
                  go_ret
                  exact ⟨by first | rfl | (simp; done) | (simp [*]; done), by repeat (first | exact Drawn0.refl _ | apply Drawn0.step)⟩
              · rw [if_neg c12] at H
                exact absurd H (by simp)
end Go.Proofs.YtcoipojikmgdmaaDoor.P
end
section
namespace Go.Proofs.YtcoipojikmgdmaaDoor.P
open Go.RowKit Go.Proofs.YtcoipojikmgdmaaDoorW.PrintWords Go.Proofs.YtcoipojikmgdmaaDoorW.PrintLast Go.Proofs.YtcoipojikmgdmaaDoorW.PrintMore
attribute [local go_sem] max2_int min2_int max_two min_two max_three min_three max_four min_four
set_option linter.unusedVariables false
set_option linter.unusedSimpArgs false
mutual
def roundellaw02_NatTexts.j0 : Nat → List Int → Bool → Option (Bool)
  | 0, _, _ => none
  | k + 1, x0, x15 => if x15 = true then ((roundellaw02_awake.f k).bind fun t614 => (some t614)) else ((roundellaw02_copied.f x0).bind fun t615 => ((nat_Text.f k t615).bind fun t618 => ((nat_Read.f k t618).bind fun bt619 => ((roundellaw02_copied.f x0).bind fun t623 => ((nat_Small.f t623).bind fun bt626 => (if (x0.length : Int) = 0 then (roundellaw02_NatTexts.j1 k x0 t618 bt619.1 bt619.2 bt626.1 bt626.2 true) else (if (x0.length : Int) = 1 then (if 0 < (x0.length : Int) then (roundellaw02_NatTexts.j1 k x0 t618 bt619.1 bt619.2 bt626.1 bt626.2 (decide ((rd x0 0) ≤ 4611686018427387904))) else (none)) else (roundellaw02_NatTexts.j1 k x0 t618 bt619.1 bt619.2 bt626.1 bt626.2 false))))))))
def roundellaw02_NatTexts.j1 : Nat → List Int → ByteArray → List Int → Int → Int → Bool → Bool → Option (Bool)
  | 0, _, _, _, _, _, _, _ => none
  | k + 1, x0, x3, x4, x5, x6, x7, x8 => if (x7 != x8) = true then (roundellaw02_NatTexts.j2 k x0 x3 x4 x5 true) else (if x7 = true then (if (x0.length : Int) = 1 then (if 0 < (x0.length : Int) then (if x6 = (wrap64 (rd x0 0)) then (if (x0.length : Int) = 0 then (roundellaw02_NatTexts.j2 k x0 x3 x4 x5 (x6 != 0)) else (roundellaw02_NatTexts.j2 k x0 x3 x4 x5 false)) else (roundellaw02_NatTexts.j2 k x0 x3 x4 x5 true)) else (none)) else (if (x0.length : Int) = 0 then (roundellaw02_NatTexts.j2 k x0 x3 x4 x5 (x6 != 0)) else (roundellaw02_NatTexts.j2 k x0 x3 x4 x5 false))) else (if x6 = 0 then (roundellaw02_NatTexts.j2 k x0 x3 x4 x5 false) else (roundellaw02_NatTexts.j2 k x0 x3 x4 x5 true)))
def roundellaw02_NatTexts.j2 : Nat → List Int → ByteArray → List Int → Int → Bool → Option (Bool)
  | 0, _, _, _, _, _ => none
  | k + 1, x0, x3, x4, x5, x83 => if x83 = true then (none) else ((roundelref02_Limbs.f k x0).bind fun t630 => ((roundelref02_Text.f k t630).bind fun t633 => (if x3.toList = t633.toList then (if x5 = 0 then ((roundellaw02_same.f k x4 x0).bind fun t634 => (some t634)) else (none)) else (none))))
end
def roundellaw02_NatTexts.f (k : Nat) (l0 : List Int) : Option (Bool) := (roundellaw02_awake.f k).bind fun t612 => (if t612 = true then ((roundellaw02_few.f l0 ([] : List Int)).bind fun t613 => (roundellaw02_NatTexts.j0 k l0 (!t613))) else (roundellaw02_NatTexts.j0 k l0 true))
set_option maxHeartbeats 8000000 in
set_option maxRecDepth 100000 in
theorem roundellaw02_NatTexts.calls (k : Nat) (A0 : Option Addr) (c0 : Nat) (l0 : List Int) (r : Bool) (w : World) (hr0 : Kd.C (Kd.int .u64) w A0 l0.length l0) (hc0 : l0.length ≤ c0) (hG : Glob w) (h : roundellaw02_NatTexts.f k l0 = some r) :
    Calls Tryd.prog 10 #[.slice A0 l0.length c0] w fun e w' => e = .returned (.bool r) ∧ Below w.heap.size w w' := by
  have HR0 := Aside0.mk hr0
  have HC0 := Aside0.mk hc0
  clear hr0 hc0
  have HG := Aside0.mk hG
  clear hG
  have HB := Aside0.mk (Below.refl w.heap.size w)
  have H : ((roundellaw02_awake.f k).bind fun t612 => (if t612 = true then ((roundellaw02_few.f l0 ([] : List Int)).bind fun t613 => (roundellaw02_NatTexts.j0 k l0 (!t613))) else (roundellaw02_NatTexts.j0 k l0 true))) = some r := h
  clear h
  have HC2 := Aside0.mk H
  clear H
  go_enter Tryd.func10, Tryd.ntmps10
  go_upto_region 1 with (fail)
  go_cut [15] (fun v15 wc => ∃ (kq : Nat) (x15_1 : Bool), v15 = .bool x15_1 ∧ Aside0 (roundellaw02_NatTexts.j0 kq l0 x15_1 = some r) ∧ Aside0 (kq ≤ k) ∧ Aside0 (Below w.heap.size w wc))
  case first =>
    have H := HC2.out
    clear HC2
    replace H := Option.bind_eq_some_iff.mp H
    obtain ⟨t612, A30, H⟩ := H
    replace H : (if t612 = true then ((roundellaw02_few.f l0 ([] : List Int)).bind fun t613 => (roundellaw02_NatTexts.j0 k l0 (!t613))) else (roundellaw02_NatTexts.j0 k l0 true)) = some r := H
    have A3 := Aside0.mk A30
    clear A30
    by_cases c4 : t612 = true
    · subst c4
      have H1 : ((roundellaw02_few.f l0 ([] : List Int)).bind fun t613 => (roundellaw02_NatTexts.j0 k l0 (!t613))) = some r := by rw [if_pos rfl] at H; exact H
      clear H
      have H := H1
      clear H1
      replace H := Option.bind_eq_some_iff.mp H
      obtain ⟨t613, A50, H⟩ := H
      replace H : (roundellaw02_NatTexts.j0 k l0 (!t613)) = some r := H
      have A5 := Aside0.mk A50
      clear A50
      have H' := Aside0.mk H
      clear H
      go_wp2_with (first | ((with_reducible refine gate_callee (f := 12) rfl ?_); refine goesL_ (some 9) rfl rfl Tryd.func12 (by kernel_rfl) rfl #[] rfl (by (try simp only [List.map_toArray, List.map_cons, List.map_nil]); first | done | rfl | (simp only [List.length_drop, List.length_take]; rfl) | ((simp [Act.eval, wrap64]) <;> omega) | ((simp [Act.eval, wrap64, IntKind.wrap, IntKind.bits, IntKind.signed]) <;> omega)) ?_; (with_reducible refine (roundellaw02_awake.calls k  true _ ?side1 A3.out).mono ?_); (case side1 => exact Glob.below HG.out (by repeat (first | (with_reducible first | exact HB.out | apply below_alloc | apply pw_below_drewN | apply below_drew1) | exact HB.out))); rintro e w6 ⟨rfl, hb⟩; refine ⟨_, rfl, ?_⟩; have n0_ := Aside0.mk (below_step (by repeat (first | (with_reducible first | exact HB.out | apply below_alloc | apply pw_below_drewN | apply below_drew1) | exact HB.out)) hb); clear HB; have HB := n0_; clear n0_; (try clear hb); (try clear hb2); (try clear hk); (try clear hi)) | (go_at_call 19; (refine (roundellaw02_few.calls _ _ l0 _ _ ([] : List Int) t613 _ ?side1 ?side2 ?side3 ?side4 A5.out).mono ?_); (case side1 => repeat (first | exact (Kd.C_below HR0.out HB.out) | (with_reducible refine Kd.C_alloc ?_ _) | (with_reducible refine Kd.C_drewN ?_ _) | (with_reducible refine Kd.C_drew ?_))); (case side2 => exact HC0.out); (case side3 => exact Kd.C_nil _ _); (case side4 => exact Nat.le_refl _); rintro e w' ⟨rfl, ⟨nd, rfl⟩⟩))
      go_meet
      case rel => exact ⟨_, (!t613), (by first | rfl | (simp; done) | (simp [*]; done)), H', ⟨by first | omega | exact Nat.le_refl _⟩, ⟨by repeat (first | (with_reducible first | exact HB.out | apply below_alloc | apply pw_below_drewN | apply below_drew1) | exact HB.out)⟩⟩
    · replace c4 := Bool.eq_false_iff.mpr c4
      subst c4
      have H1 : (roundellaw02_NatTexts.j0 k l0 true) = some r := by rw [if_neg (show ¬ (false = true) by decide)] at H; exact H
      clear H
      have H := H1
      clear H1
      have H' := Aside0.mk H
      clear H
      go_wp2_with (first | ((with_reducible refine gate_callee (f := 12) rfl ?_); refine goesL_ (some 9) rfl rfl Tryd.func12 (by kernel_rfl) rfl #[] rfl (by (try simp only [List.map_toArray, List.map_cons, List.map_nil]); first | done | rfl | (simp only [List.length_drop, List.length_take]; rfl) | ((simp [Act.eval, wrap64]) <;> omega) | ((simp [Act.eval, wrap64, IntKind.wrap, IntKind.bits, IntKind.signed]) <;> omega)) ?_; (with_reducible refine (roundellaw02_awake.calls k  false _ ?side1 A3.out).mono ?_); (case side1 => exact Glob.below HG.out (by repeat (first | (with_reducible first | exact HB.out | apply below_alloc | apply pw_below_drewN | apply below_drew1) | exact HB.out))); rintro e w7 ⟨rfl, hb⟩; refine ⟨_, rfl, ?_⟩; have n0_ := Aside0.mk (below_step (by repeat (first | (with_reducible first | exact HB.out | apply below_alloc | apply pw_below_drewN | apply below_drew1) | exact HB.out)) hb); clear HB; have HB := n0_; clear n0_; (try clear hb); (try clear hb2); (try clear hk); (try clear hi)))
      go_meet
      case rel => exact ⟨_, (true), (by first | rfl | (simp; done) | (simp [*]; done)), H', ⟨by first | omega | exact Nat.le_refl _⟩, ⟨by repeat (first | (with_reducible first | exact HB.out | apply below_alloc | apply pw_below_drewN | apply below_drew1) | exact HB.out)⟩⟩
  case rest =>
    clear HC2
    try clear c1
    try clear p2
    try clear c4
    try clear p6
    obtain ⟨kq, x15_1, rfl, HA, HJ1, HB⟩ := hcut
    cases kq with
    | zero => exact absurd HA.out (by simp [roundellaw02_NatTexts.j0])
    | succ kj1 =>
      have H := HA.out
      clear HA
      simp only [roundellaw02_NatTexts.j0] at H
      by_cases c8 : x15_1 = true
      · subst c8
        have H1 : ((roundellaw02_awake.f kj1).bind fun t614 => (some t614)) = some r := by rw [if_pos rfl] at H; exact H
        clear H
        have H := H1
        clear H1
        replace H := Option.bind_eq_some_iff.mp H
        obtain ⟨t614, A90, H⟩ := H
        replace H : (some t614) = some r := H
        have A9 := Aside0.mk A90
        clear A90
        obtain rfl := Option.some.inj H
        go_wp2_with (first | ((with_reducible refine gate_callee (f := 12) rfl ?_); refine goesL_ (some 16) rfl rfl Tryd.func12 (by kernel_rfl) rfl #[] rfl (by (try simp only [List.map_toArray, List.map_cons, List.map_nil]); first | done | rfl | (simp only [List.length_drop, List.length_take]; rfl) | ((simp [Act.eval, wrap64]) <;> omega) | ((simp [Act.eval, wrap64, IntKind.wrap, IntKind.bits, IntKind.signed]) <;> omega)) ?_; (with_reducible refine (roundellaw02_awake.calls kj1  t614 _ ?side1 A9.out).mono ?_); (case side1 => exact Glob.below HG.out (by repeat (first | (with_reducible first | exact HB.out | apply below_alloc | apply pw_below_drewN | apply below_drew1) | exact HB.out))); rintro e w10 ⟨rfl, hb⟩; refine ⟨_, rfl, ?_⟩; have n0_ := Aside0.mk (below_step (by repeat (first | (with_reducible first | exact HB.out | apply below_alloc | apply pw_below_drewN | apply below_drew1) | exact HB.out)) hb); clear HB; have HB := n0_; clear n0_; (try clear hb); (try clear hb2); (try clear hk); (try clear hi)))
        go_ret
        exact ⟨by first | rfl | (simp [errW_none, errW_some] <;> rfl) | (simp [*, errW_none, errW_some] <;> rfl), by repeat (first | (with_reducible first | exact HB.out | apply below_alloc | apply pw_below_drewN | apply below_drew1) | exact HB.out)⟩
      · replace c8 := Bool.eq_false_iff.mpr c8
        subst c8
        have H1 : ((roundellaw02_copied.f l0).bind fun t615 => ((nat_Text.f kj1 t615).bind fun t618 => ((nat_Read.f kj1 t618).bind fun bt619 => ((roundellaw02_copied.f l0).bind fun t623 => ((nat_Small.f t623).bind fun bt626 => (if (l0.length : Int) = 0 then (roundellaw02_NatTexts.j1 kj1 l0 t618 bt619.1 bt619.2 bt626.1 bt626.2 true) else (if (l0.length : Int) = 1 then (if 0 < (l0.length : Int) then (roundellaw02_NatTexts.j1 kj1 l0 t618 bt619.1 bt619.2 bt626.1 bt626.2 (decide ((rd l0 0) ≤ 4611686018427387904))) else (none)) else (roundellaw02_NatTexts.j1 kj1 l0 t618 bt619.1 bt619.2 bt626.1 bt626.2 false)))))))) = some r := by rw [if_neg (show ¬ (false = true) by decide)] at H; exact H
        clear H
        have H := H1
        clear H1
        replace H := Option.bind_eq_some_iff.mp H
        obtain ⟨t615, A110, H⟩ := H
        replace H : ((nat_Text.f kj1 t615).bind fun t618 => ((nat_Read.f kj1 t618).bind fun bt619 => ((roundellaw02_copied.f l0).bind fun t623 => ((nat_Small.f t623).bind fun bt626 => (if (l0.length : Int) = 0 then (roundellaw02_NatTexts.j1 kj1 l0 t618 bt619.1 bt619.2 bt626.1 bt626.2 true) else (if (l0.length : Int) = 1 then (if 0 < (l0.length : Int) then (roundellaw02_NatTexts.j1 kj1 l0 t618 bt619.1 bt619.2 bt626.1 bt626.2 (decide ((rd l0 0) ≤ 4611686018427387904))) else (none)) else (roundellaw02_NatTexts.j1 kj1 l0 t618 bt619.1 bt619.2 bt626.1 bt626.2 false))))))) = some r := H
        have A11 := Aside0.mk A110
        clear A110
        replace H := Option.bind_eq_some_iff.mp H
        obtain ⟨t618, A120, H⟩ := H
        replace H : ((nat_Read.f kj1 t618).bind fun bt619 => ((roundellaw02_copied.f l0).bind fun t623 => ((nat_Small.f t623).bind fun bt626 => (if (l0.length : Int) = 0 then (roundellaw02_NatTexts.j1 kj1 l0 t618 bt619.1 bt619.2 bt626.1 bt626.2 true) else (if (l0.length : Int) = 1 then (if 0 < (l0.length : Int) then (roundellaw02_NatTexts.j1 kj1 l0 t618 bt619.1 bt619.2 bt626.1 bt626.2 (decide ((rd l0 0) ≤ 4611686018427387904))) else (none)) else (roundellaw02_NatTexts.j1 kj1 l0 t618 bt619.1 bt619.2 bt626.1 bt626.2 false)))))) = some r := H
        have A12 := Aside0.mk A120
        clear A120
        replace H := Option.bind_eq_some_iff.mp H
        obtain ⟨⟨t619, t622⟩, A130, H⟩ := H
        replace H : ((roundellaw02_copied.f l0).bind fun t623 => ((nat_Small.f t623).bind fun bt626 => (if (l0.length : Int) = 0 then (roundellaw02_NatTexts.j1 kj1 l0 t618 t619 t622 bt626.1 bt626.2 true) else (if (l0.length : Int) = 1 then (if 0 < (l0.length : Int) then (roundellaw02_NatTexts.j1 kj1 l0 t618 t619 t622 bt626.1 bt626.2 (decide ((rd l0 0) ≤ 4611686018427387904))) else (none)) else (roundellaw02_NatTexts.j1 kj1 l0 t618 t619 t622 bt626.1 bt626.2 false))))) = some r := H
        have A13 := Aside0.mk A130
        clear A130
        replace H := Option.bind_eq_some_iff.mp H
        obtain ⟨t623, A140, H⟩ := H
        replace H : ((nat_Small.f t623).bind fun bt626 => (if (l0.length : Int) = 0 then (roundellaw02_NatTexts.j1 kj1 l0 t618 t619 t622 bt626.1 bt626.2 true) else (if (l0.length : Int) = 1 then (if 0 < (l0.length : Int) then (roundellaw02_NatTexts.j1 kj1 l0 t618 t619 t622 bt626.1 bt626.2 (decide ((rd l0 0) ≤ 4611686018427387904))) else (none)) else (roundellaw02_NatTexts.j1 kj1 l0 t618 t619 t622 bt626.1 bt626.2 false)))) = some r := H
        have A14 := Aside0.mk A140
        clear A140
        replace H := Option.bind_eq_some_iff.mp H
        obtain ⟨⟨t626, t627⟩, A150, H⟩ := H
        replace H : (if (l0.length : Int) = 0 then (roundellaw02_NatTexts.j1 kj1 l0 t618 t619 t622 t626 t627 true) else (if (l0.length : Int) = 1 then (if 0 < (l0.length : Int) then (roundellaw02_NatTexts.j1 kj1 l0 t618 t619 t622 t626 t627 (decide ((rd l0 0) ≤ 4611686018427387904))) else (none)) else (roundellaw02_NatTexts.j1 kj1 l0 t618 t619 t622 t626 t627 false))) = some r := H
        have A15 := Aside0.mk A150
        clear A150
        have HC16 := Aside0.mk H
        clear H
        go_upto_region 6 with (first | ((with_reducible refine gate_callee (f := 14) rfl ?_); refine goesL_ (some 18) rfl rfl Tryd.func14 (by kernel_rfl) rfl #[.slice A0 l0.length c0] rfl (by (try simp only [List.map_toArray, List.map_cons, List.map_nil]); first | done | rfl | (simp only [List.length_drop, List.length_take]; rfl) | ((simp [Act.eval, wrap64]) <;> omega) | ((simp [Act.eval, wrap64, IntKind.wrap, IntKind.bits, IntKind.signed]) <;> omega)) ?_; (with_reducible refine (roundellaw02_copied.calls _ _ l0 t615 _ ?side1 ?side2 A11.out).mono ?_); (case side1 => repeat (first | exact (Kd.C_below HR0.out HB.out) | (with_reducible refine Kd.C_alloc ?_ _) | (with_reducible refine Kd.C_drewN ?_ _) | (with_reducible refine Kd.C_drew ?_))); (case side2 => exact HC0.out); rintro e w17 ⟨v616, rfl, ho0, hb⟩; refine ⟨_, rfl, ?_⟩; have n0_ := Aside0.mk (Kd.R_lower ho0 (below_size (by repeat (first | (with_reducible first | exact HB.out | apply below_alloc | apply pw_below_drewN | apply below_drew1) | exact HB.out)))); have n1_ := Aside0.mk (below_step (by repeat (first | (with_reducible first | exact HB.out | apply below_alloc | apply pw_below_drewN | apply below_drew1) | exact HB.out)) hb); clear HB; have HO617 := n0_; have HB := n1_; clear n0_ n1_; (try clear hb); (try clear hb2); (try clear hk); (try clear hi); (try clear ho0); obtain ⟨Ao18, co18, eo18⟩ := Kd.R_slice HO617.out; subst eo18) | ((with_reducible refine gate_callee (f := 34) rfl ?_); refine goesL_ (some 19) rfl rfl Tryd.func34 (by kernel_rfl) rfl #[.slice Ao18 t615.length co18] rfl (by (try simp only [List.map_toArray, List.map_cons, List.map_nil]); first | done | rfl | (simp only [List.length_drop, List.length_take]; rfl) | ((simp [Act.eval, wrap64]) <;> omega) | ((simp [Act.eval, wrap64, IntKind.wrap, IntKind.bits, IntKind.signed]) <;> omega)) ?_; (with_reducible refine (nat_Text.calls kj1 (fun k_ => some k_ = (.slice Ao18 t615.length co18 : Value).ownBlock) _ _ t615 t618 _ ?side1 ?side2 A12.out).mono ?_); (case side1 => exact Kd.R_V (Kd.R_tight rfl (HO617.out))); (case side2 => exact Glob.below HG.out (by repeat (first | (with_reducible first | exact HB.out | apply below_alloc | apply pw_below_drewN | apply below_drew1) | exact HB.out))); rintro e w19 ⟨rfl, hb⟩; refine ⟨_, rfl, ?_⟩; have n0_ := Aside0.mk (Kd.R_below (by (with_reducible repeat (first | apply Kd.R_alloc | apply Kd.R_drewN | apply Kd.R_drew)); exact HO617.out) hb); have n1_ := Aside0.mk (below_step (by repeat (first | (with_reducible first | exact HB.out | apply below_alloc | apply pw_below_drewN | apply below_drew1) | exact HB.out)) hb); clear HO617; clear HB; have HO617 := n0_; have HB := n1_; clear n0_ n1_; (try clear hb); (try clear hb2); (try clear hk); (try clear hi)) | ((with_reducible refine gate_callee (f := 29) rfl ?_); refine goesL_ (some 22) rfl rfl Tryd.func29 (by kernel_rfl) rfl #[.string t618] rfl (by (try simp only [List.map_toArray, List.map_cons, List.map_nil]); first | done | rfl | (simp only [List.length_drop, List.length_take]; rfl) | ((simp [Act.eval, wrap64]) <;> omega) | ((simp [Act.eval, wrap64, IntKind.wrap, IntKind.bits, IntKind.signed]) <;> omega)) ?_; (with_reducible refine (nat_Read.calls kj1 t618 t619 t622 _ A13.out).mono ?_); rintro e w20 ⟨v620, rfl, ho0, hb⟩; refine ⟨_, rfl, ?_⟩; have n0_ := Aside0.mk (Kd.R_below (by (with_reducible repeat (first | apply Kd.R_alloc | apply Kd.R_drewN | apply Kd.R_drew)); exact HO617.out) hb); have n1_ := Aside0.mk (Kd.V_lower (Kd.V_mono (ok' := fun k_ => some k_ ≠ (.slice Ao18 t615.length co18 : Value).ownBlock) ho0 (fun k_ hk_ => (Kd.fresh' (Kd.R_lt (by (with_reducible repeat (first | apply Kd.R_alloc | apply Kd.R_drewN | apply Kd.R_drew)); exact HO617.out)) k_ hk_))) (below_size (by repeat (first | (with_reducible first | exact HB.out | apply below_alloc | apply pw_below_drewN | apply below_drew1) | exact HB.out)))); have n2_ := Aside0.mk (below_step (by repeat (first | (with_reducible first | exact HB.out | apply below_alloc | apply pw_below_drewN | apply below_drew1) | exact HB.out)) hb); clear HO617; clear HB; have HO617 := n0_; have HO621 := n1_; have HB := n2_; clear n0_ n1_ n2_; (try clear hb); (try clear hb2); (try clear hk); (try clear hi); (try clear ho0)) | ((with_reducible refine gate_callee (f := 14) rfl ?_); refine goesL_ (some 27) rfl rfl Tryd.func14 (by kernel_rfl) rfl #[.slice A0 l0.length c0] rfl (by (try simp only [List.map_toArray, List.map_cons, List.map_nil]); first | done | rfl | (simp only [List.length_drop, List.length_take]; rfl) | ((simp [Act.eval, wrap64]) <;> omega) | ((simp [Act.eval, wrap64, IntKind.wrap, IntKind.bits, IntKind.signed]) <;> omega)) ?_; (with_reducible refine (roundellaw02_copied.calls _ _ l0 t623 _ ?side1 ?side2 A14.out).mono ?_); (case side1 => repeat (first | exact (Kd.C_below HR0.out HB.out) | (with_reducible refine Kd.C_alloc ?_ _) | (with_reducible refine Kd.C_drewN ?_ _) | (with_reducible refine Kd.C_drew ?_))); (case side2 => exact HC0.out); rintro e w21 ⟨v624, rfl, ho0, hb⟩; refine ⟨_, rfl, ?_⟩; have n0_ := Aside0.mk (Kd.R_elder' (by (with_reducible repeat (first | apply Kd.R_alloc | apply Kd.R_drewN | apply Kd.R_drew)); exact HO617.out) (Kd.R_base ho0) hb); have n1_ := Aside0.mk (Kd.V_elder' (by (with_reducible repeat (first | apply Kd.V_alloc | apply Kd.V_drewN | apply Kd.V_drew)); exact HO621.out) (Kd.R_base ho0) hb); have n2_ := Aside0.mk (Kd.R_lower (Kd.R_new' ho0 (Kd.R_lt (by (with_reducible repeat (first | apply Kd.R_alloc | apply Kd.R_drewN | apply Kd.R_drew)); exact HO617.out))) (below_size (by repeat (first | (with_reducible first | exact HB.out | apply below_alloc | apply pw_below_drewN | apply below_drew1) | exact HB.out)))); have n3_ := Aside0.mk (below_step (by repeat (first | (with_reducible first | exact HB.out | apply below_alloc | apply pw_below_drewN | apply below_drew1) | exact HB.out)) hb); clear HO617; clear HO621; clear HB; have HO617 := n0_; have HO621 := n1_; have HO625 := n2_; have HB := n3_; clear n0_ n1_ n2_ n3_; (try clear hb); (try clear hb2); (try clear hk); (try clear hi); (try clear ho0); obtain ⟨Ao22, co22, eo22⟩ := Kd.R_slice HO625.out; subst eo22) | ((with_reducible refine gate_callee (f := 35) rfl ?_); refine goesL_ (some 28) rfl rfl Tryd.func35 (by kernel_rfl) rfl #[.slice Ao22 t623.length co22] rfl (by (try simp only [List.map_toArray, List.map_cons, List.map_nil]); first | done | rfl | (simp only [List.length_drop, List.length_take]; rfl) | ((simp [Act.eval, wrap64]) <;> omega) | ((simp [Act.eval, wrap64, IntKind.wrap, IntKind.bits, IntKind.signed]) <;> omega)) ?_; (with_reducible refine (nat_Small.calls _ _ t623 t626 t627 _ ?side1 ?side2 A15.out).mono ?_); (case side1 => repeat (first | exact (Kd.R_reads' HO625.out).2.2 | (with_reducible refine Kd.C_alloc ?_ _) | (with_reducible refine Kd.C_drewN ?_ _) | (with_reducible refine Kd.C_drew ?_))); (case side2 => exact (Kd.R_reads' HO625.out).2.1); rintro e w' ⟨rfl, ⟨nd, rfl⟩⟩; refine ⟨_, rfl, ?_⟩))
        (try simp only [Act.put, List.setIfInBounds_toArray, List.set_cons_zero, List.set_cons_succ])
        go_cut [8] (fun v8 wc => ∃ (kq : Nat) (x8_15 : Bool), v8 = .bool x8_15 ∧ Aside0 (roundellaw02_NatTexts.j1 kq l0 t618 t619 t622 t626 t627 x8_15 = some r) ∧ Aside0 (kq ≤ kj1) ∧ Aside0 (Kd.V (Kd.int .u64) 23 wc w.heap.size (fun _ => True) v620 t619) ∧ Aside0 (Below w.heap.size w wc))
        case first =>
          have H := HC16.out
          clear HC16
          by_cases c23 : (l0.length : Int) = 0
          · rw [if_pos c23] at H
            have c23b0 : ((l0.length : Int) == 0) = true := beq_iff_eq.mpr c23
            have c23b1 : ((l0.length : Int) != 0) = false := bne_eq_false_iff_eq.mpr c23
            clear c23
            (first | rw [c23b0] | (simp only [i64_w, i32_w]; rw [c23b0]) | skip)
            have H' := Aside0.mk H
            clear H
            go_wp2
            go_meet
            case rel => exact ⟨_, (true), (by first | rfl | (simp; done) | (simp [*]; done)), H', ⟨by have := HJ1.out; first | omega | exact Nat.le_refl _⟩, ⟨by (with_reducible repeat (first | apply Kd.V_alloc | apply Kd.V_drewN | apply Kd.V_drew)); exact Kd.V_mono HO621.out (fun _ hk => trivial)⟩, ⟨by repeat (first | (with_reducible first | exact HB.out | apply below_alloc | apply pw_below_drewN | apply below_drew1) | exact HB.out)⟩⟩
          · rw [if_neg c23] at H
            have c23b0 : ((l0.length : Int) == 0) = false := beq_eq_false_iff_ne.mpr c23
            have c23b1 : ((l0.length : Int) != 0) = true := bne_iff_ne.mpr c23
            have c23b2 : ¬ (l0 = []) := fun h_ => c23 (by rw [h_]; rfl)
            (first | rw [c23b0] | (simp only [i64_w, i32_w]; rw [c23b0]) | skip)
            by_cases c24 : (l0.length : Int) = 1
            · rw [if_pos c24] at H
              have c24b0 : ((l0.length : Int) == 1) = true := beq_iff_eq.mpr c24
              have c24b1 : ((l0.length : Int) != 1) = false := bne_eq_false_iff_eq.mpr c24
              clear c24
              by_cases c25 : 0 < (l0.length : Int)
              · rw [if_pos c25] at H
                have c25b0 : decide (0 < (l0.length : Int)) = true := decide_eq_true c25
                have c25b1 : decide (0 < l0.length) = true := decide_eq_true (by omega)
                clear c25
                have H' := Aside0.mk H
                clear H
                have p628 : 0 ≤ (0 : Int) := (by omega)
                have q628 : 0 < (l0.length : Int) := of_decide_eq_true (by first | (with_reducible assumption) | assumption)
                obtain ⟨ad628, e628, hx628_0⟩ := Kd.at_int HR0.out 0 p628 q628
                cases e628
                have qi628 : (0 < l0.length) = True := eq_true (by omega)
                (try rw [show ((0 : Int)).toNat = 0 from rfl] at hx628_0)
                (try rw [Addr.add_zero'] at hx628_0)
                replace hx628_0 := (HB.out.cell (World.block_lt_of_cell? w _ hx628_0)).trans hx628_0
                replace p628 := eq_true p628
                replace q628 := eq_true q628
                go_wp2
                go_meet
                case rel => exact ⟨_, (decide ((rd l0 0) ≤ 4611686018427387904)), (by first | rfl | (simp; done) | (simp [*]; done)), H', ⟨by have := HJ1.out; first | omega | exact Nat.le_refl _⟩, ⟨by (with_reducible repeat (first | apply Kd.V_alloc | apply Kd.V_drewN | apply Kd.V_drew)); exact Kd.V_mono HO621.out (fun _ hk => trivial)⟩, ⟨by repeat (first | (with_reducible first | exact HB.out | apply below_alloc | apply pw_below_drewN | apply below_drew1) | exact HB.out)⟩⟩
              · rw [if_neg c25] at H
                exact absurd H (by simp)
            · rw [if_neg c24] at H
              have c24b0 : ((l0.length : Int) == 1) = false := beq_eq_false_iff_ne.mpr c24
              have c24b1 : ((l0.length : Int) != 1) = true := bne_iff_ne.mpr c24
              have H' := Aside0.mk H
              clear H
              go_wp2
              go_meet
              case rel => exact ⟨_, (false), (by first | rfl | (simp; done) | (simp [*]; done)), H', ⟨by have := HJ1.out; first | omega | exact Nat.le_refl _⟩, ⟨by (with_reducible repeat (first | apply Kd.V_alloc | apply Kd.V_drewN | apply Kd.V_drew)); exact Kd.V_mono HO621.out (fun _ hk => trivial)⟩, ⟨by repeat (first | (with_reducible first | exact HB.out | apply below_alloc | apply pw_below_drewN | apply below_drew1) | exact HB.out)⟩⟩
        case rest =>
          clear HC16
          try clear c1
          try clear c2
          try clear p2
          try clear c3
          try clear c4
          try clear p6
          try clear q6
          try clear hx6
          try clear qi6
          try clear c8
          try clear c10
          try clear c12
          try clear c14
          try clear c23
          try clear c23b0
          try clear c23b1
          try clear c23b2
          try clear c24
          try clear c24b0
          try clear c24b1
          try clear c25
          try clear c25b0
          try clear c25b1
          try clear hx628_0
          try clear p2
          try clear p6
          try clear p628
          try clear q628
          obtain ⟨kq, x8_15, rfl, HA, HJ15, HO_4, HB⟩ := hcut
          cases kq with
          | zero => exact absurd HA.out (by simp [roundellaw02_NatTexts.j1])
          | succ kj15 =>
            have H := HA.out
            clear HA
            simp only [roundellaw02_NatTexts.j1] at H
            have HC26 := Aside0.mk H
            clear H
            go_upto_region 7 with (fail)
            go_cut [83] (fun v83 wc => ∃ (kq : Nat) (x83_25 : Bool), v83 = .bool x83_25 ∧ Aside0 (roundellaw02_NatTexts.j2 kq l0 t618 t619 t622 x83_25 = some r) ∧ Aside0 (kq ≤ kj15) ∧ Aside0 (Kd.V (Kd.int .u64) 23 wc w.heap.size (fun _ => True) v620 t619) ∧ Aside0 (Below w.heap.size w wc))
            case first =>
              have H := HC26.out
              clear HC26
              by_cases c27 : (t627 != x8_15) = true
              · rw [if_pos c27] at H
                have c27b0 : (t627 != x8_15) = true := c27
                (try (have c27b1 : decide (t627 = x8_15) = false := by simpa using c27))
                (try (have c27b2 : (t627 == x8_15) = false := by simpa using c27))
                (try (have c27b3 : ¬ (t627 = x8_15) := by simpa using c27))
                clear c27
                (first | rw [c27b0] | (simp only [i64_w, i32_w]; rw [c27b0]) | skip)
                have H' := Aside0.mk H
                clear H
                go_wp2
                go_meet
                case rel => exact ⟨_, (true), (by first | rfl | (simp; done) | (simp [*]; done)), H', ⟨by have := HJ1.out; have := HJ15.out; first | omega | exact Nat.le_refl _⟩, ⟨by (with_reducible repeat (first | apply Kd.V_alloc | apply Kd.V_drewN | apply Kd.V_drew)); exact HO_4.out⟩, ⟨by repeat (first | (with_reducible first | exact HB.out | apply below_alloc | apply pw_below_drewN | apply below_drew1) | exact HB.out)⟩⟩
              · rw [if_neg c27] at H
                have c27b0 : (t627 != x8_15) = false := by simpa using c27
                (try (have c27b1 : decide (t627 = x8_15) = true := by simpa using c27))
                (try (have c27b2 : (t627 == x8_15) = true := by simpa using c27))
                clear c27
                (first | rw [c27b0] | (simp only [i64_w, i32_w]; rw [c27b0]) | skip)
                by_cases c28 : t627 = true
                · subst c28
                  have H1 : (if (l0.length : Int) = 1 then (if 0 < (l0.length : Int) then (if t626 = (wrap64 (rd l0 0)) then (if (l0.length : Int) = 0 then (roundellaw02_NatTexts.j2 kj15 l0 t618 t619 t622 (t626 != 0)) else (roundellaw02_NatTexts.j2 kj15 l0 t618 t619 t622 false)) else (roundellaw02_NatTexts.j2 kj15 l0 t618 t619 t622 true)) else (none)) else (if (l0.length : Int) = 0 then (roundellaw02_NatTexts.j2 kj15 l0 t618 t619 t622 (t626 != 0)) else (roundellaw02_NatTexts.j2 kj15 l0 t618 t619 t622 false))) = some r := by rw [if_pos rfl] at H; exact H
                  clear H
                  have H := H1
                  clear H1
                  by_cases c29 : (l0.length : Int) = 1
                  · rw [if_pos c29] at H
                    have c29b0 : ((l0.length : Int) == 1) = true := beq_iff_eq.mpr c29
                    have c29b1 : ((l0.length : Int) != 1) = false := bne_eq_false_iff_eq.mpr c29
                    clear c29
                    by_cases c30 : 0 < (l0.length : Int)
                    · rw [if_pos c30] at H
                      have c30b0 : decide (0 < (l0.length : Int)) = true := decide_eq_true c30
                      have c30b1 : decide (0 < l0.length) = true := decide_eq_true (by omega)
                      clear c30
                      by_cases c31 : t626 = (wrap64 (rd l0 0))
                      · rw [if_pos c31] at H
                        have c31b0 : (t626 == (wrap64 (rd l0 0))) = true := beq_iff_eq.mpr c31
                        have c31b1 : (t626 != (wrap64 (rd l0 0))) = false := bne_eq_false_iff_eq.mpr c31
                        clear c31
                        by_cases c32 : (l0.length : Int) = 0
                        · rw [if_pos c32] at H
                          have c32b0 : ((l0.length : Int) == 0) = true := beq_iff_eq.mpr c32
                          have c32b1 : ((l0.length : Int) != 0) = false := bne_eq_false_iff_eq.mpr c32
                          clear c32
                          have H' := Aside0.mk H
                          clear H
                          have p629 : 0 ≤ (0 : Int) := (by omega)
                          have q629 : 0 < (l0.length : Int) := of_decide_eq_true (by first | (with_reducible assumption) | assumption)
                          obtain ⟨ad629, e629, hx629_0⟩ := Kd.at_int HR0.out 0 p629 q629
                          cases e629
                          have qi629 : (0 < l0.length) = True := eq_true (by omega)
                          (try rw [show ((0 : Int)).toNat = 0 from rfl] at hx629_0)
                          (try rw [Addr.add_zero'] at hx629_0)
                          replace hx629_0 := (HB.out.cell (World.block_lt_of_cell? w _ hx629_0)).trans hx629_0
                          replace p629 := eq_true p629
                          replace q629 := eq_true q629
                          go_wp2
                          go_meet
                          case rel => exact ⟨_, ((t626 != 0)), (by first | rfl | (simp; done) | (simp [*]; done)), H', ⟨by have := HJ1.out; have := HJ15.out; first | omega | exact Nat.le_refl _⟩, ⟨by (with_reducible repeat (first | apply Kd.V_alloc | apply Kd.V_drewN | apply Kd.V_drew)); exact HO_4.out⟩, ⟨by repeat (first | (with_reducible first | exact HB.out | apply below_alloc | apply pw_below_drewN | apply below_drew1) | exact HB.out)⟩⟩
                        · rw [if_neg c32] at H
                          have c32b0 : ((l0.length : Int) == 0) = false := beq_eq_false_iff_ne.mpr c32
                          have c32b1 : ((l0.length : Int) != 0) = true := bne_iff_ne.mpr c32
                          have c32b2 : ¬ (l0 = []) := fun h_ => c32 (by rw [h_]; rfl)
                          have H' := Aside0.mk H
                          clear H
                          have p629 : 0 ≤ (0 : Int) := (by omega)
                          have q629 : 0 < (l0.length : Int) := of_decide_eq_true (by first | (with_reducible assumption) | assumption)
                          obtain ⟨ad629, e629, hx629_0⟩ := Kd.at_int HR0.out 0 p629 q629
                          cases e629
                          have qi629 : (0 < l0.length) = True := eq_true (by omega)
                          (try rw [show ((0 : Int)).toNat = 0 from rfl] at hx629_0)
                          (try rw [Addr.add_zero'] at hx629_0)
                          replace hx629_0 := (HB.out.cell (World.block_lt_of_cell? w _ hx629_0)).trans hx629_0
                          replace p629 := eq_true p629
                          replace q629 := eq_true q629
                          go_wp2
                          go_meet
                          case rel => exact ⟨_, (false), (by first | rfl | (simp; done) | (simp [*]; done)), H', ⟨by have := HJ1.out; have := HJ15.out; first | omega | exact Nat.le_refl _⟩, ⟨by (with_reducible repeat (first | apply Kd.V_alloc | apply Kd.V_drewN | apply Kd.V_drew)); exact HO_4.out⟩, ⟨by repeat (first | (with_reducible first | exact HB.out | apply below_alloc | apply pw_below_drewN | apply below_drew1) | exact HB.out)⟩⟩
                      · rw [if_neg c31] at H
                        have c31b0 : (t626 == (wrap64 (rd l0 0))) = false := beq_eq_false_iff_ne.mpr c31
                        have c31b1 : (t626 != (wrap64 (rd l0 0))) = true := bne_iff_ne.mpr c31
                        have H' := Aside0.mk H
                        clear H
                        have p629 : 0 ≤ (0 : Int) := (by omega)
                        have q629 : 0 < (l0.length : Int) := of_decide_eq_true (by first | (with_reducible assumption) | assumption)
                        obtain ⟨ad629, e629, hx629_0⟩ := Kd.at_int HR0.out 0 p629 q629
                        cases e629
                        have qi629 : (0 < l0.length) = True := eq_true (by omega)
                        (try rw [show ((0 : Int)).toNat = 0 from rfl] at hx629_0)
                        (try rw [Addr.add_zero'] at hx629_0)
                        replace hx629_0 := (HB.out.cell (World.block_lt_of_cell? w _ hx629_0)).trans hx629_0
                        replace p629 := eq_true p629
                        replace q629 := eq_true q629
                        go_wp2
                        go_meet
                        case rel => exact ⟨_, (true), (by first | rfl | (simp; done) | (simp [*]; done)), H', ⟨by have := HJ1.out; have := HJ15.out; first | omega | exact Nat.le_refl _⟩, ⟨by (with_reducible repeat (first | apply Kd.V_alloc | apply Kd.V_drewN | apply Kd.V_drew)); exact HO_4.out⟩, ⟨by repeat (first | (with_reducible first | exact HB.out | apply below_alloc | apply pw_below_drewN | apply below_drew1) | exact HB.out)⟩⟩
                    · rw [if_neg c30] at H
                      exact absurd H (by simp)
                  · rw [if_neg c29] at H
                    have c29b0 : ((l0.length : Int) == 1) = false := beq_eq_false_iff_ne.mpr c29
                    have c29b1 : ((l0.length : Int) != 1) = true := bne_iff_ne.mpr c29
                    by_cases c33 : (l0.length : Int) = 0
                    · rw [if_pos c33] at H
                      have c33b0 : ((l0.length : Int) == 0) = true := beq_iff_eq.mpr c33
                      have c33b1 : ((l0.length : Int) != 0) = false := bne_eq_false_iff_eq.mpr c33
                      clear c33
                      have H' := Aside0.mk H
                      clear H
                      go_wp2
                      go_meet
                      case rel => exact ⟨_, ((t626 != 0)), (by first | rfl | (simp; done) | (simp [*]; done)), H', ⟨by have := HJ1.out; have := HJ15.out; first | omega | exact Nat.le_refl _⟩, ⟨by (with_reducible repeat (first | apply Kd.V_alloc | apply Kd.V_drewN | apply Kd.V_drew)); exact HO_4.out⟩, ⟨by repeat (first | (with_reducible first | exact HB.out | apply below_alloc | apply pw_below_drewN | apply below_drew1) | exact HB.out)⟩⟩
                    · rw [if_neg c33] at H
                      have c33b0 : ((l0.length : Int) == 0) = false := beq_eq_false_iff_ne.mpr c33
                      have c33b1 : ((l0.length : Int) != 0) = true := bne_iff_ne.mpr c33
                      have c33b2 : ¬ (l0 = []) := fun h_ => c33 (by rw [h_]; rfl)
                      have H' := Aside0.mk H
                      clear H
                      go_wp2
                      go_meet
                      case rel => exact ⟨_, (false), (by first | rfl | (simp; done) | (simp [*]; done)), H', ⟨by have := HJ1.out; have := HJ15.out; first | omega | exact Nat.le_refl _⟩, ⟨by (with_reducible repeat (first | apply Kd.V_alloc | apply Kd.V_drewN | apply Kd.V_drew)); exact HO_4.out⟩, ⟨by repeat (first | (with_reducible first | exact HB.out | apply below_alloc | apply pw_below_drewN | apply below_drew1) | exact HB.out)⟩⟩
                · replace c28 := Bool.eq_false_iff.mpr c28
                  subst c28
                  have H1 : (if t626 = 0 then (roundellaw02_NatTexts.j2 kj15 l0 t618 t619 t622 false) else (roundellaw02_NatTexts.j2 kj15 l0 t618 t619 t622 true)) = some r := by rw [if_neg (show ¬ (false = true) by decide)] at H; exact H
                  clear H
                  have H := H1
                  clear H1
                  by_cases c34 : t626 = 0
                  · rw [if_pos c34] at H
                    have c34b0 : (t626 == 0) = true := beq_iff_eq.mpr c34
                    have c34b1 : (t626 != 0) = false := bne_eq_false_iff_eq.mpr c34
                    clear c34
                    have H' := Aside0.mk H
                    clear H
                    go_wp2
                    go_meet
                    case rel => exact ⟨_, (false), (by first | rfl | (simp; done) | (simp [*]; done)), H', ⟨by have := HJ1.out; have := HJ15.out; first | omega | exact Nat.le_refl _⟩, ⟨by (with_reducible repeat (first | apply Kd.V_alloc | apply Kd.V_drewN | apply Kd.V_drew)); exact HO_4.out⟩, ⟨by repeat (first | (with_reducible first | exact HB.out | apply below_alloc | apply pw_below_drewN | apply below_drew1) | exact HB.out)⟩⟩
                  · rw [if_neg c34] at H
                    have c34b0 : (t626 == 0) = false := beq_eq_false_iff_ne.mpr c34
                    have c34b1 : (t626 != 0) = true := bne_iff_ne.mpr c34
                    have H' := Aside0.mk H
                    clear H
                    go_wp2
                    go_meet
                    case rel => exact ⟨_, (true), (by first | rfl | (simp; done) | (simp [*]; done)), H', ⟨by have := HJ1.out; have := HJ15.out; first | omega | exact Nat.le_refl _⟩, ⟨by (with_reducible repeat (first | apply Kd.V_alloc | apply Kd.V_drewN | apply Kd.V_drew)); exact HO_4.out⟩, ⟨by repeat (first | (with_reducible first | exact HB.out | apply below_alloc | apply pw_below_drewN | apply below_drew1) | exact HB.out)⟩⟩
            case rest =>
              clear HC26
              try clear c1
              try clear c2
              try clear p2
              try clear c3
              try clear c4
              try clear p6
              try clear q6
              try clear hx6
              try clear qi6
              try clear c8
              try clear c10
              try clear c12
              try clear c14
              try clear c23
              try clear c23b0
              try clear c23b1
              try clear c23b2
              try clear c24
              try clear c24b0
              try clear c24b1
              try clear c25
              try clear c25b0
              try clear c25b1
              try clear c27
              try clear c27b0
              try clear c27b1
              try clear c27b2
              try clear c28
              try clear c29
              try clear c29b0
              try clear c29b1
              try clear c30
              try clear c30b0
              try clear c30b1
              try clear c31
              try clear c31b0
              try clear c31b1
              try clear c32
              try clear c32b0
              try clear c32b1
              try clear c32b2
              try clear c33
              try clear c33b0
              try clear c33b1
              try clear c33b2
              try clear c34
              try clear c34b0
              try clear c34b1
              try clear hx628_0
              try clear hx629_0
              try clear p2
              try clear p6
              try clear p628
              try clear p629
              try clear q6
              try clear q628
              try clear q629
              obtain ⟨kq, x83_25, rfl, HA, HJ25, HO_4, HB⟩ := hcut
              cases kq with
              | zero => exact absurd HA.out (by simp [roundellaw02_NatTexts.j2])
              | succ kj25 =>
                have H := HA.out
                clear HA
                simp only [roundellaw02_NatTexts.j2] at H
                by_cases c35 : x83_25 = true
                · subst c35
                  have H1 : (none) = some r := by rw [if_pos rfl] at H; exact H
                  clear H
                  have H := H1
                  clear H1
                  exact absurd H (by simp)
                · replace c35 := Bool.eq_false_iff.mpr c35
                  subst c35
                  have H1 : ((roundelref02_Limbs.f kj25 l0).bind fun t630 => ((roundelref02_Text.f kj25 t630).bind fun t633 => (if t618.toList = t633.toList then (if t622 = 0 then ((roundellaw02_same.f kj25 t619 l0).bind fun t634 => (some t634)) else (none)) else (none)))) = some r := by rw [if_neg (show ¬ (false = true) by decide)] at H; exact H
                  clear H
                  have H := H1
                  clear H1
                  replace H := Option.bind_eq_some_iff.mp H
                  obtain ⟨t630, A360, H⟩ := H
                  replace H : ((roundelref02_Text.f kj25 t630).bind fun t633 => (if t618.toList = t633.toList then (if t622 = 0 then ((roundellaw02_same.f kj25 t619 l0).bind fun t634 => (some t634)) else (none)) else (none))) = some r := H
                  have A36 := Aside0.mk A360
                  clear A360
                  replace H := Option.bind_eq_some_iff.mp H
                  obtain ⟨t633, A370, H⟩ := H
                  replace H : (if t618.toList = t633.toList then (if t622 = 0 then ((roundellaw02_same.f kj25 t619 l0).bind fun t634 => (some t634)) else (none)) else (none)) = some r := H
                  have A37 := Aside0.mk A370
                  clear A370
                  by_cases c38 : t618.toList = t633.toList
                  · rw [if_pos c38] at H
                    have c38b0 : (t618.toList == t633.toList) = true := beq_iff_eq.mpr c38
                    have c38b1 : (t618.toList != t633.toList) = false := bne_eq_false_iff_eq.mpr c38
                    clear c38
                    by_cases c39 : t622 = 0
                    · rw [if_pos c39] at H
                      have c39b0 : (t622 == 0) = true := beq_iff_eq.mpr c39
                      have c39b1 : (t622 != 0) = false := bne_eq_false_iff_eq.mpr c39
                      clear c39
                      replace H := Option.bind_eq_some_iff.mp H
                      obtain ⟨t634, A400, H⟩ := H
                      replace H : (some t634) = some r := H
                      have A40 := Aside0.mk A400
                      clear A400
                      obtain rfl := Option.some.inj H
                      go_wp2_with (first | ((with_reducible refine gate_callee (f := 18) rfl ?_); refine goesL_ (some 86) rfl rfl Tryd.func18 (by kernel_rfl) rfl #[.slice A0 l0.length c0] rfl (by (try simp only [List.map_toArray, List.map_cons, List.map_nil]); first | done | rfl | (simp only [List.length_drop, List.length_take]; rfl) | ((simp [Act.eval, wrap64]) <;> omega) | ((simp [Act.eval, wrap64, IntKind.wrap, IntKind.bits, IntKind.signed]) <;> omega)) ?_; (with_reducible refine (roundelref02_Limbs.calls kj25 _ _ l0 t630 _ ?side1 ?side2 A36.out).mono ?_); (case side1 => repeat (first | exact (Kd.C_below HR0.out HB.out) | (with_reducible refine Kd.C_alloc ?_ _) | (with_reducible refine Kd.C_drewN ?_ _) | (with_reducible refine Kd.C_drew ?_))); (case side2 => exact HC0.out); rintro e w41 ⟨v631, rfl, ho0, hb⟩; refine ⟨_, rfl, ?_⟩; have n0_ := Aside0.mk (Kd.V_elder' (by (with_reducible repeat (first | apply Kd.V_alloc | apply Kd.V_drewN | apply Kd.V_drew)); exact HO_4.out) (Kd.R_base ho0) hb); have n1_ := Aside0.mk (Kd.R_lower ho0 (below_size (by repeat (first | (with_reducible first | exact HB.out | apply below_alloc | apply pw_below_drewN | apply below_drew1) | exact HB.out)))); have n2_ := Aside0.mk (below_step (by repeat (first | (with_reducible first | exact HB.out | apply below_alloc | apply pw_below_drewN | apply below_drew1) | exact HB.out)) hb); clear HO_4; clear HB; have HO_4 := n0_; have HO632 := n1_; have HB := n2_; clear n0_ n1_ n2_; (try clear hb); (try clear hb2); (try clear hk); (try clear hi); (try clear ho0); obtain ⟨Ao42, co42, eo42⟩ := Kd.R_slice HO632.out; subst eo42) | ((with_reducible refine gate_callee (f := 36) rfl ?_); refine goesL_ (some 87) rfl rfl Tryd.func36 (by kernel_rfl) rfl #[.slice Ao42 t630.length co42] rfl (by (try simp only [List.map_toArray, List.map_cons, List.map_nil]); first | done | rfl | (simp only [List.length_drop, List.length_take]; rfl) | ((simp [Act.eval, wrap64]) <;> omega) | ((simp [Act.eval, wrap64, IntKind.wrap, IntKind.bits, IntKind.signed]) <;> omega)) ?_; (with_reducible refine (roundelref02_Text.calls kj25 _ _ t630 t633 _ ?side1 ?side2 A37.out).mono ?_); (case side1 => repeat (first | exact (Kd.R_reads' HO632.out).2.2 | (with_reducible refine Kd.C_alloc ?_ _) | (with_reducible refine Kd.C_drewN ?_ _) | (with_reducible refine Kd.C_drew ?_))); (case side2 => exact (Kd.R_reads' HO632.out).2.1); rintro e w' ⟨rfl, ⟨nd, rfl⟩⟩; refine ⟨_, rfl, ?_⟩; obtain ⟨Ao43, co43, eo43⟩ := Kd.V_slice HO_4.out; subst eo43) | (go_at_call 28; (with_reducible refine (roundellaw02_same.calls kj25 _ _ t619 _ _ l0 t634 _ ?side1 ?side2 ?side3 ?side4 A40.out).mono ?_); (case side1 => repeat (first | exact (Kd.V_reads' HO_4.out).2.2 | (with_reducible refine Kd.C_alloc ?_ _) | (with_reducible refine Kd.C_drewN ?_ _) | (with_reducible refine Kd.C_drew ?_))); (case side2 => exact (Kd.V_reads' HO_4.out).2.1); (case side3 => repeat (first | exact (Kd.C_below HR0.out (by repeat (first | (with_reducible first | exact HB.out | apply below_alloc | apply pw_below_drewN | apply below_drew1) | exact HB.out))) | (with_reducible refine Kd.C_alloc ?_ _) | (with_reducible refine Kd.C_drewN ?_ _) | (with_reducible refine Kd.C_drew ?_))); (case side4 => exact HC0.out); rintro e w' ⟨rfl, ⟨nd, rfl⟩⟩))
                      go_ret
                      exact ⟨by first | rfl | (simp [errW_none, errW_some] <;> rfl) | (simp [*, errW_none, errW_some] <;> rfl), by repeat (first | (with_reducible first | exact HB.out | apply below_alloc | apply pw_below_drewN | apply below_drew1) | exact HB.out)⟩
                    · rw [if_neg c39] at H
                      exact absurd H (by simp)
                  · rw [if_neg c38] at H
                    exact absurd H (by simp)
def roundellaw02_NatTexts.Pure : Prop := ∀ (l0 : List Int), l0.length ≤ maxLen → l0.length * 8 ≤ 140737488351232 → (∀ x ∈ l0, (Lit.int .u64 x).wf = true) → ∃ k, roundellaw02_NatTexts.f k l0 = some true
theorem roundellaw02_NatTexts.walk (P : roundellaw02_NatTexts.Pure) (a0 : Option Addr) (len0 cap0 : Nat) (z0 : List Int) (w : World) (w0 : (a0 = none ∧ len0 = 0 ∧ cap0 = 0 ∧ z0 = []) ∨ ∃ x, a0 = some x ∧ len0 ≤ cap0 ∧ cap0 ≤ maxLen ∧ z0.length = cap0 ∧ (∀ i, i < z0.length → w.cell? (x.add i) = some (.int .u64 (z0.getD i 0))) ∧ ∀ n ∈ z0, (Lit.int .u64 n).wf = true) (y0 : len0 * 8 ≤ 140737488351232) (hG : Glob w) :
    Calls Tryd.prog 10 #[.slice a0 len0 cap0] w fun e w' => e = .returned (.bool true) ∧ Below w.heap.size w w' := by
  obtain ⟨l0, rfl, hr0, hm0, hw0, hc0⟩ := ReadsInt.ofRowC w0
  obtain ⟨k, h⟩ := P l0 hm0 y0 hw0
  refine (roundellaw02_NatTexts.calls k _ _ l0 true w (Kd.C_of_reads (d := (0 : Int)) (h1 := fun _ => rfl) hr0) hc0 hG h).mono ?_
  rintro e w' ⟨rfl, hd⟩
  exact ⟨rfl, hd⟩
end Go.Proofs.YtcoipojikmgdmaaDoor.P
end
section
namespace Go.Proofs.YtcoipojikmgdmaaDoor.P
open Go.RowKit Go.Proofs.YtcoipojikmgdmaaDoorW.PrintWords Go.Proofs.YtcoipojikmgdmaaDoorW.PrintLast Go.Proofs.YtcoipojikmgdmaaDoorW.PrintMore
attribute [local go_sem] max2_int min2_int max_two min_two max_three min_three max_four min_four
set_option linter.unusedVariables false
set_option linter.unusedSimpArgs false
def Ev {α : Type} (F : Nat → Option α) (r : α) : Prop := ∃ K, ∀ k, K ≤ k → F k = some r
theorem Ev.const {α : Type} (r : α) : Ev (fun _ => some r) r := ⟨0, fun _ _ => rfl⟩
theorem Ev.congr {α : Type} {F G : Nat → Option α} {r : α} (h : ∀ k, F k = G k) (hg : Ev G r) : Ev F r := by
  obtain ⟨K, hK⟩ := hg
  exact ⟨K, fun k hk => (h k).trans (hK k hk)⟩
theorem Ev.step {α : Type} {F G : Nat → Option α} {r : α} (h : ∀ k, F (k + 1) = G k) (hg : Ev G r) : Ev F r := by
  obtain ⟨K, hK⟩ := hg
  refine ⟨K + 1, fun k hk => ?_⟩
  obtain ⟨m, rfl⟩ : ∃ m, k = m + 1 := ⟨k - 1, by omega⟩
  exact (h m).trans (hK m (by omega))
theorem Ev.bind {α β : Type} {F : Nat → Option α} {G : Nat → α → Option β} {x : α} {r : β} (hf : Ev F x) (hg : Ev (fun k => G k x) r) : Ev (fun k => (F k).bind (G k)) r := by
  obtain ⟨K, hK⟩ := hf
  obtain ⟨L, hL⟩ := hg
  refine ⟨K + L, fun k hk => ?_⟩
  show (F k).bind (G k) = some r
  rw [hK k (by omega)]
  exact hL k (by omega)
theorem Ev.get {α : Type} {F : Nat → Option α} {r : α} (h : Ev F r) : ∃ k, F k = some r := by
  obtain ⟨K, hK⟩ := h
  exact ⟨K, hK K (Nat.le_refl _)⟩
theorem w64s {x : Int} (h0 : -9223372036854775808 ≤ x) (h1 : x < 9223372036854775808) : wrap64 x = x := by unfold wrap64; omega
def val (B : Nat) : List Int → Nat
  | [] => 0
  | x :: xs => x.toNat + B * val B xs
def Dig (B : Nat) (l : List Int) : Prop := ∀ x ∈ l, 0 ≤ x ∧ x < (B : Int)
def strip : List Int → List Int
  | [] => []
  | x :: xs => if strip xs = [] then (if x = 0 then [] else [x]) else x :: strip xs
def dig (B n : Nat) : List Int := if h : n = 0 ∨ B ≤ 1 then [] else ((n % B : Nat) : Int) :: dig B (n / B)
termination_by n
decreasing_by exact Nat.div_lt_self (by omega) (by omega)
theorem dig_zero (B : Nat) : dig B 0 = [] := by rw [dig]; simp
theorem dig_pos {B n : Nat} (hB : 1 < B) (hn : n ≠ 0) : dig B n = ((n % B : Nat) : Int) :: dig B (n / B) := by
  rw [dig, dif_neg (by omega)]
theorem dig_ne {B n : Nat} (hB : 1 < B) (hn : n ≠ 0) : dig B n ≠ [] := by rw [dig_pos hB hn]; simp
theorem val_dig {B : Nat} (hB : 1 < B) (n : Nat) : val B (dig B n) = n := by
  induction n using Nat.strongRecOn with
  | ind n ih =>
    by_cases hn : n = 0
    · subst hn
      rw [dig_zero]
      rfl
    · rw [dig_pos hB hn, val, ih (n / B) (Nat.div_lt_self (by omega) hB)]
      have := Nat.mod_add_div n B
      omega
theorem Dig_dig {B : Nat} (hB : 1 < B) (n : Nat) : Dig B (dig B n) := by
  induction n using Nat.strongRecOn with
  | ind n ih =>
    by_cases hn : n = 0
    · subst hn
      rw [dig_zero]
      intro x hx
      cases hx
    · rw [dig_pos hB hn]
      intro x hx
      rcases List.mem_cons.1 hx with rfl | hx
      · have := Nat.mod_lt n (show 0 < B by omega)
        omega
      · exact ih (n / B) (Nat.div_lt_self (by omega) hB) x hx
theorem Dig.cons {B : Nat} {x : Int} {l : List Int} (h : Dig B (x :: l)) : (0 ≤ x ∧ x < (B : Int)) ∧ Dig B l := ⟨h x (by simp), fun y hy => h y (by simp [hy])⟩
theorem Dig.mk {B : Nat} {x : Int} {l : List Int} (h0 : 0 ≤ x) (h1 : x < (B : Int)) (h : Dig B l) : Dig B (x :: l) := by
  intro y hy
  rcases List.mem_cons.1 hy with rfl | hy
  · exact ⟨h0, h1⟩
  · exact h y hy
theorem Dig.nil (B : Nat) : Dig B [] := by intro x hx; cases hx
theorem Dig.app {B : Nat} {a b : List Int} (ha : Dig B a) (hb : Dig B b) : Dig B (a ++ b) := by
  intro x hx
  rcases List.mem_append.1 hx with h | h
  · exact ha x h
  · exact hb x h
theorem strip_dig {B : Nat} (hB : 1 < B) : ∀ (l : List Int), Dig B l → strip l = dig B (val B l)
  | [], _ => by rw [val, dig_zero]; rfl
  | x :: xs, h => by
    obtain ⟨⟨h0, h1⟩, h2⟩ := h.cons
    have ih := strip_dig hB xs h2
    have hm : ∀ v, (x.toNat + B * v) % B = x.toNat := fun v => by
      rw [Nat.add_mul_mod_self_left, Nat.mod_eq_of_lt (by omega)]
    have hd : ∀ v, (x.toNat + B * v) / B = v := fun v => by
      rw [Nat.add_mul_div_left _ _ (by omega), Nat.div_eq_of_lt (by omega), Nat.zero_add]
    rw [strip, val, ih]
    by_cases hv : val B xs = 0
    · rw [hv, dig_zero, if_pos rfl]
      by_cases hx : x = 0
      · subst hx
        simp [dig_zero]
      · rw [if_neg hx, dig_pos hB (by omega), hm, hd, dig_zero]
        congr 1
        omega
    · rw [if_neg (dig_ne hB hv)]
      have hne : x.toNat + B * val B xs ≠ 0 := by
        have := Nat.mul_pos (show 0 < B by omega) (Nat.pos_of_ne_zero hv)
        omega
      rw [dig_pos hB hne, hm, hd]
      congr 1
      omega
theorem strip_snoc0 : ∀ (l : List Int), strip (l ++ [0]) = strip l
  | [] => by simp [strip]
  | x :: xs => by
    rw [List.cons_append, strip, strip, strip_snoc0 xs]
theorem strip_snoc : ∀ (l : List Int) (x : Int), x ≠ 0 → strip (l ++ [x]) = l ++ [x]
  | [], x, h => by simp [strip, h]
  | y :: ys, x, h => by
    rw [List.cons_append, strip, strip_snoc ys x h, if_neg (by simp)]
def Good (l : List Int) : Prop := l = [] ∨ l.getD (l.length - 1) 0 ≠ 0
theorem good_dig {B : Nat} (hB : 1 < B) {l : List Int} (h : Dig B l) (hg : Good l) : l = dig B (val B l) := by
  rw [← strip_dig hB l h]
  rcases List.eq_nil_or_concat l with rfl | ⟨ys, y, rfl⟩
  · rfl
  · rcases hg with hg | hg
    · simp at hg
    · rw [List.concat_eq_append] at hg ⊢
      rw [strip_snoc _ _ (by simpa using hg)]
theorem dig_last {B : Nat} (hB : 1 < B) (n : Nat) : Good (dig B n) := by
  induction n using Nat.strongRecOn with
  | ind n ih =>
    by_cases hn : n = 0
    · subst hn
      exact .inl (dig_zero B)
    · right
      rw [dig_pos hB hn]
      have ih := ih (n / B) (Nat.div_lt_self (by omega) hB)
      by_cases hd : n / B = 0
      · rw [hd, dig_zero]
        have h1 := Nat.div_add_mod n B
        rw [hd] at h1
        simp
        omega
      · have hne := dig_ne hB hd
        rcases ih with ih | ih
        · exact absurd ih hne
        · have hl : 0 < (dig B (n / B)).length := List.length_pos_iff.2 hne
          simp only [List.length_cons, Nat.add_sub_cancel]
          rw [show (dig B (n / B)).length = (dig B (n / B)).length - 1 + 1 by omega, List.getD_cons_succ]
          exact ih
theorem dig_length {B : Nat} (hB : 1 < B) : ∀ (m n : Nat), n < B ^ m → (dig B n).length ≤ m
  | 0, n, h => by
    have : n = 0 := by simpa using h
    subst this
    rw [dig_zero]
    exact Nat.le_refl _
  | m + 1, n, h => by
    by_cases hn : n = 0
    · subst hn
      rw [dig_zero]
      exact Nat.zero_le _
    · rw [dig_pos hB hn, List.length_cons]
      have : n / B < B ^ m := by
        rw [Nat.div_lt_iff_lt_mul (by omega)]
        rwa [Nat.pow_succ] at h
      have := dig_length hB m _ this
      omega
theorem val_lt {B : Nat} : ∀ (l : List Int), Dig B l → val B l < B ^ l.length
  | [], _ => by simp [val]
  | x :: xs, h => by
    obtain ⟨⟨h0, h1⟩, h2⟩ := h.cons
    have ih := val_lt xs h2
    rw [val, List.length_cons, Nat.pow_succ]
    have : B * (val B xs + 1) ≤ B * B ^ xs.length := Nat.mul_le_mul_left _ ih
    rw [Nat.mul_add] at this
    rw [Nat.mul_comm (B ^ xs.length)]
    omega
def V (B : Nat) (l : List Int) (i : Nat) : Nat := val B (l.drop i)
theorem V_zero (B : Nat) (l : List Int) : V B l 0 = val B l := rfl
theorem V_end (B : Nat) {l : List Int} {i : Nat} (h : l.length ≤ i) : V B l i = 0 := by
  unfold V
  rw [List.drop_eq_nil_of_le h]
  rfl
theorem V_step (B : Nat) (l : List Int) (i : Nat) : V B l i = (l.getD i 0).toNat + B * V B l (i + 1) := by
  by_cases h : i < l.length
  · unfold V
    rw [List.drop_eq_getElem_cons h, val, List.getD_eq_getElem?_getD, List.getElem?_eq_getElem h]
    rfl
  · rw [V_end B (by omega), V_end B (by omega), List.getD_eq_getElem?_getD, List.getElem?_eq_none (by omega)]
    rfl
theorem Dig.get {B : Nat} (hB : 0 < B) {l : List Int} (h : Dig B l) (i : Nat) : 0 ≤ l.getD i 0 ∧ l.getD i 0 < (B : Int) := by
  by_cases hi : i < l.length
  · rw [List.getD_eq_getElem?_getD, List.getElem?_eq_getElem hi]
    exact h _ (List.getElem_mem hi)
  · rw [List.getD_eq_getElem?_getD, List.getElem?_eq_none (by omega)]
    simp
    omega
theorem V_pos {B : Nat} (hB : 1 < B) {l : List Int} (h : Dig B l) (hg : Good l) (i : Nat) (hi : i < l.length) : 0 < V B l i := by
  rcases hg with rfl | hg
  · simp at hi
  · obtain ⟨m, hm⟩ : ∃ m, l.length - 1 = i + m := ⟨l.length - 1 - i, by omega⟩
    rw [hm] at hg
    have key : ∀ m i, l.getD (i + m) 0 ≠ 0 → 0 < V B l i := by
      intro m
      induction m with
      | zero =>
        intro i h0
        rw [V_step]
        have := (h.get (show 0 < B by omega) i).1
        rw [Nat.add_zero] at h0
        omega
      | succ m ih =>
        intro i h0
        rw [V_step]
        have := ih (i + 1) (by rw [show i + 1 + m = i + (m + 1) by omega]; exact h0)
        have := Nat.mul_pos (show 0 < B by omega) this
        omega
    exact key m i hg
theorem rd_nat (l : List Int) (i : Nat) : rd l (i : Int) = l.getD i 0 := by
  unfold rd
  simp
theorem val_append (B : Nat) : ∀ (a b : List Int), val B (a ++ b) = val B a + B ^ a.length * val B b
  | [], b => by simp [val]
  | x :: xs, b => by
    rw [List.cons_append, val, val, val_append B xs b, List.length_cons, Nat.pow_succ, Nat.mul_add, ← Nat.mul_assoc, Nat.mul_comm B (B ^ xs.length)]
    omega
theorem val_replicate (B : Nat) : ∀ n, val B (List.replicate n 0) = 0
  | 0 => rfl
  | n + 1 => by rw [List.replicate_succ, val, val_replicate B n]; simp
theorem Dig.rep {B : Nat} (hB : 0 < B) (n : Nat) : Dig B (List.replicate n 0) := by
  intro x hx
  obtain ⟨_, rfl⟩ := List.mem_replicate.1 hx
  omega
theorem wadd (i j : Nat) (h : i + j < 4611686018427387904) : wrap64 ((i : Int) + (j : Int)) = ((i + j : Nat) : Int) := by rw [w64s (by omega) (by omega)]; omega
theorem wadd1 (i : Nat) (h : i < 4611686018427387904) : wrap64 ((i : Int) + 1) = ((i + 1 : Nat) : Int) := by rw [w64s (by omega) (by omega)]; omega
theorem wsub1 (i : Nat) (h : i < 4611686018427387904) (h0 : 0 < i) : wrap64 ((i : Int) - 1) = ((i - 1 : Nat) : Int) := by rw [w64s (by omega) (by omega)]; omega
theorem wid (i : Nat) (h : i < 4611686018427387904) : wrap64 (i : Int) = (i : Int) := w64s (by omega) (by omega)
theorem take_snoc (l : List Int) (n : Nat) (h : n < l.length) : l.take (n + 1) = l.take n ++ [l.getD n 0] := by
  rw [List.take_succ_eq_append_getElem h, List.getD_eq_getElem?_getD, List.getElem?_eq_getElem h]
  rfl
theorem pos3 {p q c : Nat} (h : 0 < p ∨ 0 < q ∨ 0 < c) : p + q + c ≠ 0 := by omega
theorem val_set (B : Nat) : ∀ (l : List Int) (j : Nat) (v : Int), j < l.length → val B (l.set j v) + B ^ j * (l.getD j 0).toNat = val B l + B ^ j * v.toNat
  | [], j, v, h => by simp at h
  | x :: xs, 0, v, h => by
    simp [val]
    omega
  | x :: xs, j + 1, v, h => by
    have ih := val_set B xs j v (by simpa using h)
    rw [List.set_cons_succ, val, val, List.getD_cons_succ, Nat.pow_succ, Nat.mul_comm (B ^ j) B, Nat.mul_assoc, Nat.mul_assoc]
    have : B * (val B (xs.set j v) + B ^ j * (xs.getD j 0).toNat) = B * (val B xs + B ^ j * v.toNat) := by rw [ih]
    rw [Nat.mul_add, Nat.mul_add] at this
    omega
theorem dig_set {B : Nat} {l : List Int} (h : Dig B l) (j : Nat) {v : Int} (h0 : 0 ≤ v) (h1 : v < (B : Int)) : Dig B (l.set j v) := by
  intro x hx
  rcases List.mem_or_eq_of_mem_set hx with h2 | rfl
  · exact h x h2
  · exact ⟨h0, h1⟩
theorem getD_set_ne {l : List Int} {i j : Nat} {v : Int} (h : i ≠ j) : (l.set i v).getD j 0 = l.getD j 0 := by
  rw [List.getD_eq_getElem?_getD, List.getD_eq_getElem?_getD, List.getElem?_set_ne h]
theorem mul_val (X B o x y c vo vs V V' q r : Nat) (hs : vs + X * o = vo + X * r) (hV : V = y + B * V') (hd : o + x * y + c = B * q + r) : vs + X * B * q + X * B * (x * V') = vo + X * c + X * (x * V) := by
  have h1 : X * (o + x * y + c) = X * (B * q + r) := by rw [hd]
  rw [hV]
  simp only [Nat.mul_add] at h1 ⊢
  have e1 : X * B * q = X * (B * q) := Nat.mul_assoc _ _ _
  have e2 : X * B * (x * V') = X * (x * (B * V')) := by rw [Nat.mul_assoc, Nat.mul_left_comm B x V']
  rw [e1, e2]
  omega
theorem V_bound {B : Nat} (hB : 0 < B) {l : List Int} (h : Dig B l) (i : Nat) : V B l i < B ^ l.length := by
  have h1 : Dig B (l.drop i) := fun x hx => h x (List.mem_of_mem_drop hx)
  have h2 := val_lt _ h1
  refine Nat.lt_of_lt_of_le h2 (Nat.pow_le_pow_right hB ?_)
  rw [List.length_drop]
  omega
theorem Ev.mono {α : Type} {F : Nat → Option α} (h : ∀ k, LeO (F k) (F (k + 1))) {K : Nat} {r : α} (hK : F K = some r) : Ev F r := by
  refine ⟨K, fun k hk => ?_⟩
  obtain ⟨m, rfl⟩ : ∃ m, k = K + m := ⟨k - K, by omega⟩
  clear hk
  induction m with
  | zero => exact hK
  | succ m ih => exact h (K + m) r ih
theorem add_val (X B vo s q x y c va vb : Nat) (h : x + y + c = B * q + s) : vo + X * (x + B * va + (y + B * vb) + c) = vo + X * s + X * B * (va + vb + q) := by
  have h1 : X * (x + y + c) = X * (B * q + s) := by rw [h]
  have e1 : X * B * (va + vb + q) = X * (B * va) + X * (B * vb) + X * (B * q) := by
    rw [Nat.mul_assoc, Nat.mul_add, Nat.mul_add, Nat.mul_add, Nat.mul_add]
  rw [e1]
  simp only [Nat.mul_add] at h1 ⊢
  omega
theorem dig_mono {B : Nat} (hB : 1 < B) {x y : Nat} (h : x ≤ y) : (dig B x).length ≤ (dig B y).length := by
  have h1 := val_lt _ (Dig_dig hB y)
  rw [val_dig hB] at h1
  exact dig_length hB _ x (Nat.lt_of_le_of_lt h h1)
theorem Ev.pos {α : Type} {c : Prop} [Decidable c] {F G : Nat → Option α} {r : α} (hc : c) (h : Ev F r) : Ev (fun k => if c then F k else G k) r := Ev.congr (fun k => if_pos hc) h
theorem Ev.neg {α : Type} {c : Prop} [Decidable c] {F G : Nat → Option α} {r : α} (hc : ¬ c) (h : Ev G r) : Ev (fun k => if c then F k else G k) r := Ev.congr (fun k => if_neg hc) h
theorem Ev.plain {α β : Type} {x : Option α} {y : α} {G : Nat → α → Option β} {r : β} (hx : x = some y) (h : Ev (fun k => G k y) r) : Ev (fun k => x.bind (G k)) r := by subst hx; exact h
theorem W_le {x m n : Nat} (hx : x < 18446744073709551616 ^ m) (h : m ≤ n) : x < 18446744073709551616 ^ n := Nat.lt_of_lt_of_le hx (Nat.pow_le_pow_right (by decide) h)
end Go.Proofs.YtcoipojikmgdmaaDoor.P
end
section
namespace Go.Proofs.YtcoipojikmgdmaaDoor.P
open Go.RowKit Go.Proofs.YtcoipojikmgdmaaDoorW.PrintWords Go.Proofs.YtcoipojikmgdmaaDoorW.PrintLast Go.Proofs.YtcoipojikmgdmaaDoorW.PrintMore
attribute [local go_sem] max2_int min2_int max_two min_two max_three min_three max_four min_four
set_option linter.unusedVariables false
set_option linter.unusedSimpArgs false
theorem lit_u64 {x : Int} (h : (Lit.int .u64 x).wf = true) : 0 ≤ x ∧ x < 18446744073709551616 := by
  have h1 : IntKind.u64.min ≤ x ∧ x ≤ IntKind.u64.max := by simpa [Lit.wf] using h
  have h2 : IntKind.u64.min = 0 := by decide
  have h3 : IntKind.u64.max = 18446744073709551615 := by decide
  omega
theorem dig_lit {l : List Int} (h : ∀ x ∈ l, (Lit.int .u64 x).wf = true) : Dig 18446744073709551616 l := fun x hx => lit_u64 (h x hx)
def goodB (l : List Int) : Bool := if l.length = 0 then true else l.getD (l.length - 1) 0 != 0
theorem rGood (l : List Int) (hl : l.length < 1000000000) : roundelref02_Good.f l = some (goodB l) := by
  unfold roundelref02_Good.f goodB
  by_cases h : l.length = 0
  · rw [if_pos (by omega), if_pos h]
  · rw [if_neg (by omega), if_neg h, wsub1 l.length (by omega) (by omega), if_pos (by omega), if_pos (by omega), rd_nat]
theorem goodB_iff (l : List Int) : goodB l = true ↔ Good l := by
  unfold goodB Good
  by_cases h : l.length = 0
  · rw [if_pos h]
    simp [List.length_eq_zero_iff.1 h]
  · rw [if_neg h]
    have : l ≠ [] := fun e => h (by rw [e]; rfl)
    simp [this]
theorem copied_eq (l : List Int) (hl : l.length < 1000000000) : roundellaw02_copied.f l = some l := by
  unfold roundellaw02_copied.f
  rw [Option.bind_some, if_pos (by simp; omega)]
  rfl
theorem ntrim_l0 : ∀ (n : Nat) (l : List Int), l.length = n → n < 1000000000 → Ev (fun k => nat_trim.l0 k l) (strip l) := by
  intro n
  induction n with
  | zero =>
    intro l hl _
    obtain rfl := List.length_eq_zero_iff.1 hl
    refine Ev.step (G := fun _ => some []) (fun k => ?_) (Ev.const _)
    rw [nat_trim.l0, if_neg (by simp)]
  | succ n ih =>
    intro l hl hn
    have e1 := Lib.hid (wsub1 l.length (by omega) (by omega))
    by_cases hz : l.getD n 0 = 0
    · refine Ev.step (G := fun k => nat_trim.l0 k (l.take n)) (fun k => ?_) ?_
      · rw [nat_trim.l0, if_pos (by omega), e1.out, hl, Nat.add_sub_cancel, if_pos (by omega), if_pos (by omega), rd_nat, if_pos hz, if_pos (by omega), Int.toNat_natCast]
      · have e : strip l = strip (l.take n) := by
          have h2 := take_snoc l n (by omega)
          rw [hz, ← hl, List.take_length] at h2
          have h3 := strip_snoc0 (l.take n)
          rw [← h2] at h3
          exact h3
        rw [e]
        exact ih (l.take n) (by rw [List.length_take]; omega) (by omega)
    · refine Ev.step (G := fun _ => some l) (fun k => ?_) ?_
      · rw [nat_trim.l0, if_pos (by omega), e1.out, hl, Nat.add_sub_cancel, if_pos (by omega), if_pos (by omega), rd_nat, if_neg hz]
      · have h2 := take_snoc l n (by omega)
        rw [← hl, List.take_length] at h2
        have e : strip l = l := by
          have h3 := strip_snoc (l.take n) _ hz
          rw [← h2] at h3
          exact h3
        rw [e]
        exact Ev.const _
theorem ntrim (l : List Int) (hl : l.length < 1000000000) (h : Dig 18446744073709551616 l) : Ev (fun k => nat_trim.f k l) (dig 18446744073709551616 (val 18446744073709551616 l)) := by
  rw [← strip_dig (by decide) l h]
  exact ntrim_l0 l.length l rfl hl
theorem nOf (n : Nat) (h : n < 18446744073709551616) : Ev (fun k => nat_Of.f k (n : Int)) (dig 18446744073709551616 n) := by
  have h1 := ntrim [(n : Int)] (by simp) (Dig.mk (by omega) (by omega) (Dig.nil _))
  rw [show val 18446744073709551616 [(n : Int)] = n by simp [val]] at h1
  exact Ev.bind h1 (Ev.const _)
theorem nawake : Ev (fun k => roundellaw02_awake.f k) true := Ev.mono (K := 12) (fun k => roundellaw02_awake.mono k) (by kernel_rfl)
theorem nAt (l : List Int) (i : Nat) : nat_Nat_at.f l (i : Int) = some (l.getD i 0) := by
  unfold nat_Nat_at.f
  by_cases h : i < l.length
  · rw [if_neg (by omega), if_pos (by omega), if_pos (by omega), rd_nat]
  · rw [if_pos (by omega), List.getD_eq_getElem?_getD, List.getElem?_eq_none (by omega)]
    rfl
theorem add64 (x y c : Nat) (hc : c ≤ 1) : bits_Add64.f (x : Int) (y : Int) (c : Int) = some ((((x + y + c) % 18446744073709551616 : Nat) : Int), (((x + y + c) / 18446744073709551616 : Nat) : Int)) := by
  unfold bits_Add64.f
  rw [if_pos (by omega)]
  simp only [Int.toNat_natCast]
theorem nAdd_l0 (a b : List Int) (ha : Dig 18446744073709551616 a) (hb : Dig 18446744073709551616 b) (M : Nat) (hM : M < 1000000) (hs : a.length ≤ M) (hs' : b.length ≤ M) : ∀ (m i c : Nat) (out : List Int), i + m = M → c ≤ 1 → out.length = i → Dig 18446744073709551616 out →
    Ev (fun k => nat_Add.l0 k a b out (c : Int) (M : Int) (i : Int)) (dig 18446744073709551616 (val 18446744073709551616 out + 18446744073709551616 ^ i * (V 18446744073709551616 a i + V 18446744073709551616 b i + c))) := by
  intro m
  induction m with
  | zero =>
    intro i c out hi hc ho hd
    refine Ev.step (G := fun k => (nat_trim.f k (out ++ [(c : Int)])).bind fun t324 => some t324) (fun k => ?_) ?_
    · rw [nat_Add.l0, if_neg (by omega), if_pos (by omega)]
    · have h := ntrim (out ++ [(c : Int)]) (by rw [List.length_append, List.length_singleton]; omega) (hd.app (Dig.mk (by omega) (by omega) (Dig.nil _)))
      rw [val_append, ho] at h
      rw [V_end _ (show a.length ≤ i by omega), V_end _ (show b.length ≤ i by omega), Nat.zero_add]
      simp only [val, Int.toNat_natCast, Nat.mul_zero, Nat.add_zero] at h
      exact Ev.bind h (Ev.const _)
  | succ m ih =>
    intro i c out hi hc ho hd
    have ha1 := ha.get (show 0 < 18446744073709551616 by decide) i
    have hb1 := hb.get (show 0 < 18446744073709551616 by decide) i
    have hva := V_step 18446744073709551616 a i
    have hvb := V_step 18446744073709551616 b i
    obtain ⟨x, hx⟩ := Int.eq_ofNat_of_zero_le ha1.1
    obtain ⟨y, hy⟩ := Int.eq_ofNat_of_zero_le hb1.1
    rw [hx] at hva ha1
    rw [hy] at hvb hb1
    rw [Int.toNat_natCast] at hva hvb
    have hq : (x + y + c) / 18446744073709551616 ≤ 1 := by omega
    have ih2 := ih (i + 1) ((x + y + c) / 18446744073709551616) (out ++ [(((x + y + c) % 18446744073709551616 : Nat) : Int)]) (by omega) hq (by rw [List.length_append, ho]; rfl) (hd.app (Dig.mk (by omega) (by omega) (Dig.nil _)))
    rw [val_append, ho, Nat.pow_succ] at ih2
    simp only [val, Int.toNat_natCast, Nat.mul_zero, Nat.add_zero] at ih2
    have ev := add_val (18446744073709551616 ^ i) 18446744073709551616 (val 18446744073709551616 out) ((x + y + c) % 18446744073709551616) ((x + y + c) / 18446744073709551616) x y c (V 18446744073709551616 a (i + 1)) (V 18446744073709551616 b (i + 1)) (by omega)
    rw [← hva, ← hvb] at ev
    rw [ev]
    have WA := Lib.hid (wadd1 i (by omega))
    have H2 := Lib.hid ih2
    clear ih2 ev hva hvb
    refine Ev.step (fun k => ?_) H2.out
    rw [nat_Add.l0, if_pos (by omega), nAt, nAt, hx, hy, Option.bind_some, Option.bind_some, add64 x y c hc, Option.bind_some, if_pos (by omega), WA.out]
def Le (n m : Nat) : Prop := (dig 18446744073709551616 n).length ≤ m
theorem nAdd (x y : Nat) (hx : Le x 100000) (hy : Le y 100000) : Ev (fun k => nat_Add.f k (dig 18446744073709551616 x) (dig 18446744073709551616 y)) (dig 18446744073709551616 (x + y)) := by
  unfold Le at hx hy
  have dx := Dig_dig (B := 18446744073709551616) (by decide) x
  have dy := Dig_dig (B := 18446744073709551616) (by decide) y
  have vx := val_dig (B := 18446744073709551616) (by decide) x
  have vy := val_dig (B := 18446744073709551616) (by decide) y
  generalize dig 18446744073709551616 x = a at *
  generalize dig 18446744073709551616 y = b at *
  have h := nAdd_l0 a b dx dy (max a.length b.length) (by omega) (by omega) (by omega) (max a.length b.length) 0 0 [] (by omega) (by omega) rfl (Dig.nil _)
  rw [V_zero, V_zero, vx, vy] at h
  simp only [val, Nat.pow_zero, Nat.one_mul, Nat.zero_add, Nat.add_zero] at h
  refine Ev.congr (fun k => ?_) h
  have e : mx (a.length : Int) (b.length : Int) = ((max a.length b.length : Nat) : Int) := by
    unfold mx
    split <;> omega
  rw [nat_Add.f, e]
  rfl
theorem Le_lt {x m : Nat} (hx : x < 18446744073709551616 ^ m) (h : m ≤ 100000) : Le x 100000 := Nat.le_trans (dig_length (by decide) m x hx) h
def fewB (a b : List Int) : Bool := decide (a.length ≤ 12) && decide (b.length ≤ 12) && goodB a && goodB b
theorem few_eq (a b : List Int) (ha : a.length < 1000000000) (hb : b.length < 1000000000) : roundellaw02_few.f a b = some (fewB a b) := by
  unfold roundellaw02_few.f fewB
  by_cases h1 : a.length ≤ 12
  · rw [if_pos (by omega), decide_eq_true h1]
    by_cases h2 : b.length ≤ 12
    · rw [if_pos (by omega), decide_eq_true h2, rGood a (by omega), rGood b (by omega)]
      cases goodB a <;> cases goodB b <;> rfl
    · rw [if_neg (by omega), decide_eq_false h2]
      rfl
  · rw [if_neg (by omega), decide_eq_false h1]
    rfl
theorem few_long (a b : List Int) (h : ¬ (a.length ≤ 12 ∧ b.length ≤ 12)) : roundellaw02_few.f a b = some false := by
  unfold roundellaw02_few.f
  by_cases h1 : a.length ≤ 12
  · rw [if_pos (by omega), if_neg (by omega)]
  · rw [if_neg (by omega)]
theorem few_cases (a b : List Int) (da : Dig 18446744073709551616 a) (db : Dig 18446744073709551616 b) : roundellaw02_few.f a b = some false ∨ (roundellaw02_few.f a b = some true ∧ ∃ x y, x < 18446744073709551616 ^ 12 ∧ y < 18446744073709551616 ^ 12 ∧ a = dig 18446744073709551616 x ∧ b = dig 18446744073709551616 y ∧ a.length ≤ 12 ∧ b.length ≤ 12) := by
  by_cases h : a.length ≤ 12 ∧ b.length ≤ 12
  · obtain ⟨h1, h2⟩ := h
    rw [few_eq a b (by omega) (by omega)]
    cases hg : fewB a b with
    | false => exact .inl rfl
    | true =>
      right
      simp only [fewB, Bool.and_eq_true] at hg
      have e1 := good_dig (by decide) da ((goodB_iff a).1 hg.1.2)
      have e2 := good_dig (by decide) db ((goodB_iff b).1 hg.2)
      exact ⟨rfl, _, _, W_le (val_lt a da) h1, W_le (val_lt b db) h2, e1, e2, h1, h2⟩
  · exact .inl (few_long a b h)
theorem mul64_parts (x1 x0 y1 y0 : Nat) (h1 : x1 < 4294967296) (h2 : x0 < 4294967296) (h3 : y1 < 4294967296) (h4 : y0 < 4294967296) :
    x1 * y1 ≤ 18446744065119617025 ∧ x1 * y0 ≤ 18446744065119617025 ∧ x0 * y1 ≤ 18446744065119617025 ∧ x0 * y0 ≤ 18446744065119617025 ∧
    (4294967296 * x1 + x0) * (4294967296 * y1 + y0) = 18446744073709551616 * (x1 * y1) + 4294967296 * (x1 * y0) + 4294967296 * (x0 * y1) + x0 * y0 := by
  refine ⟨Nat.mul_le_mul (show x1 ≤ 4294967295 by omega) (show y1 ≤ 4294967295 by omega), Nat.mul_le_mul (show x1 ≤ 4294967295 by omega) (show y0 ≤ 4294967295 by omega), Nat.mul_le_mul (show x0 ≤ 4294967295 by omega) (show y1 ≤ 4294967295 by omega), Nat.mul_le_mul (show x0 ≤ 4294967295 by omega) (show y0 ≤ 4294967295 by omega), ?_⟩
  rw [Nat.add_mul, Nat.mul_add, Nat.mul_add]
  have e1 : 4294967296 * x1 * (4294967296 * y1) = 18446744073709551616 * (x1 * y1) := by
    rw [Nat.mul_mul_mul_comm]
  have e2 : 4294967296 * x1 * y0 = 4294967296 * (x1 * y0) := Nat.mul_assoc _ _ _
  have e3 : x0 * (4294967296 * y1) = 4294967296 * (x0 * y1) := Nat.mul_left_comm _ _ _
  rw [e1, e2, e3]
  omega
theorem mul64_hi (x y P a b c d : Nat) (hP : P = 18446744073709551616 * a + 4294967296 * b + 4294967296 * c + d) (ha : a ≤ 18446744065119617025) (hb : b ≤ 18446744065119617025) (hc : c ≤ 18446744065119617025) (hd : d ≤ 18446744065119617025) :
    a + (b + d / 4294967296) / 4294967296 + ((b + d / 4294967296) % 4294967296 + c) / 4294967296 = P / 18446744073709551616 := by
  omega
theorem mul64 (x y : Nat) (hx : x < 18446744073709551616) (hy : y < 18446744073709551616) : bits_Mul64.f (x : Int) (y : Int) = some (((x * y / 18446744073709551616 : Nat) : Int), ((x * y % 18446744073709551616 : Nat) : Int)) := by
  unfold bits_Mul64.f
  rw [and32 (by omega) (by omega), and32 (by omega) (by omega)]
  obtain ⟨b1, b2, b3, b4, e⟩ := mul64_parts (x / 4294967296) (x % 4294967296) (y / 4294967296) (y % 4294967296) (by omega) (by omega) (by omega) (by omega)
  rw [show 4294967296 * (x / 4294967296) + x % 4294967296 = x by omega, show 4294967296 * (y / 4294967296) + y % 4294967296 = y by omega] at e
  have c1 : (x : Int) / 4294967296 = ((x / 4294967296 : Nat) : Int) := by omega
  have c2 : (y : Int) / 4294967296 = ((y / 4294967296 : Nat) : Int) := by omega
  have c3 : (x : Int) % 4294967296 = ((x % 4294967296 : Nat) : Int) := by omega
  have c4 : (y : Int) % 4294967296 = ((y % 4294967296 : Nat) : Int) := by omega
  rw [c1, c2, c3, c4]
  have cm : ∀ p q : Nat, (p : Int) * (q : Int) = ((p * q : Nat) : Int) := fun p q => by simp
  rw [cm, cm, cm, cm, cm]
  have hh := mul64_hi x y _ _ _ _ _ e b1 b2 b3 b4
  generalize x / 4294967296 * (y / 4294967296) = a at *
  generalize x / 4294967296 * (y % 4294967296) = b at *
  generalize x % 4294967296 * (y / 4294967296) = c at *
  generalize x % 4294967296 * (y % 4294967296) = d at *
  generalize x * y = P at *
  clear c1 c2 c3 c4 cm
  have e1 : IntKind.u64.wrap (d : Int) = (d : Int) := u64s (by omega) (by omega)
  have e2 : IntKind.u64.wrap (b : Int) = (b : Int) := u64s (by omega) (by omega)
  have e3 : IntKind.u64.wrap (c : Int) = (c : Int) := u64s (by omega) (by omega)
  have e4 : IntKind.u64.wrap (a : Int) = (a : Int) := u64s (by omega) (by omega)
  have e5 : IntKind.u64.wrap ((b : Int) + (d : Int) / 4294967296) = ((b + d / 4294967296 : Nat) : Int) := by rw [u64s (by omega) (by omega)]; omega
  rw [e1, e2, e3, e4, e5]
  clear e1 e2 e3 e4 e5
  generalize ht : b + d / 4294967296 = t at *
  rw [and32 (by omega) (by omega)]
  have e6 : IntKind.u64.wrap ((t : Int) % 4294967296 + (c : Int)) = ((t % 4294967296 + c : Nat) : Int) := by rw [u64s (by omega) (by omega)]; omega
  rw [e6]
  clear e6
  have e7 : IntKind.u64.wrap ((a : Int) + (t : Int) / 4294967296) = ((a + t / 4294967296 : Nat) : Int) := by rw [u64s (by omega) (by omega)]; omega
  rw [e7]
  clear e7
  have e8 : IntKind.u64.wrap (((a + t / 4294967296 : Nat) : Int) + ((t % 4294967296 + c : Nat) : Int) / 4294967296) = ((a + t / 4294967296 + (t % 4294967296 + c) / 4294967296 : Nat) : Int) := by rw [u64s (by omega) (by omega)]; omega
  rw [e8, hh]
  clear e8
  have e9 : IntKind.u64.wrap (P : Int) = ((P % 18446744073709551616 : Nat) : Int) := by rw [u64w]; omega
  rw [e9]
theorem mul_step (x y o c : Nat) (hx : x < 18446744073709551616) (hy : y < 18446744073709551616) (ho : o < 18446744073709551616) (hc : c < 18446744073709551616) :
    ∃ s q c1 c2 : Nat, s < 18446744073709551616 ∧ q < 18446744073709551616 ∧ o + x * y + c = 18446744073709551616 * q + s ∧
      (x * y % 18446744073709551616 + o + 0) / 18446744073709551616 = c1 ∧ ((x * y % 18446744073709551616 + o + 0) % 18446744073709551616 + c + 0) / 18446744073709551616 = c2 ∧ ((x * y % 18446744073709551616 + o + 0) % 18446744073709551616 + c + 0) % 18446744073709551616 = s ∧
      IntKind.u64.wrap (IntKind.u64.wrap (((x * y / 18446744073709551616 : Nat) : Int) + (c1 : Int)) + (c2 : Int)) = (q : Int) := by
  have hb : x * y ≤ 18446744073709551615 * 18446744073709551615 := Nat.mul_le_mul (by omega) (by omega)
  generalize x * y = P at *
  refine ⟨_, (o + P + c) / 18446744073709551616, _, _, ?_, ?_, ?_, rfl, rfl, rfl, ?_⟩
  · omega
  · omega
  · omega
  · rw [u64s (x := ((P / 18446744073709551616 : Nat) : Int) + (((P % 18446744073709551616 + o + 0) / 18446744073709551616 : Nat) : Int)) (by omega) (by omega), u64s (by omega) (by omega)]
    omega
set_option maxHeartbeats 1000000 in
theorem nMul_l1 (b : List Int) (hb : Dig 18446744073709551616 b) (x la : Nat) (a : List Int) (hla : a.length = la) (hs : la < 1000000) (hs' : b.length < 1000000) (hx : x < 18446744073709551616) (i : Nat) (hi : i < la) : ∀ (m j c : Nat) (out : List Int), j + m = b.length → c < 18446744073709551616 → Dig 18446744073709551616 out → out.length = la + b.length →
    ∃ (out' : List Int) (c' : Nat), Dig 18446744073709551616 out' ∧ out'.length = la + b.length ∧ c' < 18446744073709551616 ∧ (∀ p, i + b.length ≤ p → out'.getD p 0 = out.getD p 0) ∧
      val 18446744073709551616 out' + 18446744073709551616 ^ (i + b.length) * c' = val 18446744073709551616 out + 18446744073709551616 ^ (i + j) * c + 18446744073709551616 ^ (i + j) * (x * V 18446744073709551616 b j) ∧
      ∀ r, Ev (fun k => nat_Mul.l1 k b out' (i : Int) (x : Int) (c' : Int) a (la : Int) (i : Int) b (b.length : Int) (b.length : Int)) r → Ev (fun k => nat_Mul.l1 k b out (i : Int) (x : Int) (c : Int) a (la : Int) (i : Int) b (b.length : Int) (j : Int)) r := by
  intro m
  induction m with
  | zero =>
    intro j c out hj hc hd hl
    obtain rfl : j = b.length := by omega
    refine ⟨out, c, hd, hl, hc, fun _ _ => rfl, ?_, fun r h => h⟩
    rw [V_end _ (Nat.le_refl _)]
    simp
  | succ m ih =>
    intro j c out hj hc hd hl
    have hy := hb.get (show 0 < 18446744073709551616 by decide) j
    have ho := hd.get (show 0 < 18446744073709551616 by decide) (i + j)
    have hv := V_step 18446744073709551616 b j
    obtain ⟨y, hy'⟩ := Int.eq_ofNat_of_zero_le hy.1
    obtain ⟨o, ho'⟩ := Int.eq_ofNat_of_zero_le ho.1
    rw [hy'] at hy hv
    rw [ho'] at ho
    rw [Int.toNat_natCast] at hv
    obtain ⟨s, q, c1, c2, s1, s2, s3, s4, s5, s6, s7⟩ := mul_step x y o c hx (by omega) (by omega) hc
    have S7 := Lib.hid s7
    have S4 := Lib.hid s4
    have S5 := Lib.hid s5
    have S6 := Lib.hid s6
    clear s4 s5 s6 s7
    have hset := val_set 18446744073709551616 out (i + j) (s : Int) (by omega)
    rw [ho', Int.toNat_natCast, Int.toNat_natCast] at hset
    obtain ⟨out', c', h1, h2, h3, h4, h5, h6⟩ := ih (j + 1) q (out.set (i + j) (s : Int)) (by omega) s2 (dig_set hd _ (by omega) (by omega)) (by rw [List.length_set]; exact hl)
    have hmv := mul_val (18446744073709551616 ^ (i + j)) 18446744073709551616 o x y c _ _ _ _ _ _ hset hv s3
    have HMV := Lib.hid hmv
    have H5 := Lib.hid h5
    clear hmv h5 hset hv s3
    have EJ := Lib.hid (wadd i j (by omega))
    have EK := Lib.hid (wadd1 j (by omega))
    refine ⟨out', c', h1, h2, h3, fun p hp => ?_, ?_, fun r hr => ?_⟩
    · rw [h4 p hp, getD_set_ne (by omega)]
    · rw [H5.out, show i + (j + 1) = i + j + 1 by omega, Nat.pow_succ]
      exact HMV.out
    · refine Ev.step (fun k => ?_) (h6 r hr)
      have a1 := add64 (x * y % 18446744073709551616) o 0 (by omega)
      have a2 := add64 ((x * y % 18446744073709551616 + o + 0) % 18446744073709551616) c 0 (by omega)
      rw [S4.out] at a1
      rw [S5.out, S6.out] at a2
      have A1 := Lib.hid a1
      have A2 := Lib.hid a2
      clear a1 a2
      rw [nat_Mul.l1, if_pos (by omega), if_pos (by omega), if_pos (by omega), rd_nat, hy', mul64 x y hx (by omega), Option.bind_some, EJ.out, if_pos (by omega), if_pos (by omega), rd_nat, ho']
      rw [show (0 : Int) = ((0 : Nat) : Int) from rfl, A1.out, Option.bind_some, A2.out, Option.bind_some, S7.out, EK.out, Int.toNat_natCast]
set_option maxHeartbeats 1000000 in
theorem nMul_l0 (a b : List Int) (ha : Dig 18446744073709551616 a) (hb : Dig 18446744073709551616 b) (hs : a.length < 1000000) (hs' : b.length < 1000000) : ∀ (m i : Nat) (out : List Int), i + m = a.length → Dig 18446744073709551616 out → out.length = a.length + b.length → (∀ p, i + b.length ≤ p → out.getD p 0 = 0) →
    Ev (fun k => nat_Mul.l0 k b out a (a.length : Int) (i : Int)) (dig 18446744073709551616 (val 18446744073709551616 out + 18446744073709551616 ^ i * (V 18446744073709551616 a i * val 18446744073709551616 b))) := by
  intro m
  induction m with
  | zero =>
    intro i out hi hd hl hz
    refine Ev.step (G := fun k => (nat_trim.f k out).bind fun t190 => some t190) (fun k => ?_) ?_
    · rw [nat_Mul.l0, if_neg (by omega)]
    · rw [V_end _ (by omega), Nat.zero_mul, Nat.mul_zero, Nat.add_zero]
      exact Ev.bind (ntrim out (by omega) hd) (Ev.const _)
  | succ m ih =>
    intro i out hi hd hl hz
    have hg := ha.get (show 0 < 18446744073709551616 by decide) i
    obtain ⟨x, hx⟩ := Int.eq_ofNat_of_zero_le hg.1
    rw [hx] at hg
    obtain ⟨out', c', h1, h2, h3, h4, h5, h6⟩ := nMul_l1 b hb x a.length a rfl hs hs' (by omega) i (by omega) b.length 0 0 out (by omega) (by omega) hd hl
    have hz' := (h4 (i + b.length) (Nat.le_refl _)).trans (hz _ (Nat.le_refl _))
    have hset := val_set 18446744073709551616 out' (i + b.length) (c' : Int) (by omega)
    rw [hz', Int.toNat_natCast] at hset
    have ih2 := ih (i + 1) (out'.set (i + b.length) (c' : Int)) (by omega) (dig_set h1 _ (by omega) (by omega)) (by rw [List.length_set]; exact h2) (fun p hp => by
      rw [getD_set_ne (by omega), h4 p (by omega), hz p (by omega)])
    have EI := Lib.hid (wadd i b.length (by omega))
    have EI1 := Lib.hid (wadd1 i (by omega))
    have hva := V_step 18446744073709551616 a i
    rw [hx, Int.toNat_natCast] at hva
    have hval : val 18446744073709551616 out + 18446744073709551616 ^ i * (V 18446744073709551616 a i * val 18446744073709551616 b) = val 18446744073709551616 (out'.set (i + b.length) (c' : Int)) + 18446744073709551616 ^ (i + 1) * (V 18446744073709551616 a (i + 1) * val 18446744073709551616 b) := by
      rw [hva, Nat.add_mul, Nat.mul_add, Nat.pow_succ, Nat.mul_assoc 18446744073709551616, ← Nat.mul_assoc (18446744073709551616 ^ i) 18446744073709551616]
      rw [V_zero, Nat.add_zero, Nat.mul_zero, Nat.add_zero] at h5
      simp only [Int.toNat_zero, Nat.mul_zero, Nat.add_zero] at hset
      omega
    rw [hval]
    refine Ev.step (G := fun k => nat_Mul.l1 k b out (i : Int) (x : Int) 0 a (a.length : Int) (i : Int) b (b.length : Int) 0) (fun k => ?_) (h6 _ ?_)
    · rw [nat_Mul.l0, if_pos (by omega), if_pos (by omega), if_pos (by omega), rd_nat, hx]
    · refine Ev.step (fun k => ?_) ih2
      rw [nat_Mul.l1, if_neg (by omega), EI.out, if_pos (by omega), if_pos (by omega), EI1.out, Int.toNat_natCast]
theorem nMul (x y : Nat) (hx : Le x 100000) (hy : Le y 100000) : Ev (fun k => nat_Mul.f k (dig 18446744073709551616 x) (dig 18446744073709551616 y)) (dig 18446744073709551616 (x * y)) := by
  unfold Le at hx hy
  have dx := Dig_dig (B := 18446744073709551616) (by decide) x
  have dy := Dig_dig (B := 18446744073709551616) (by decide) y
  have vx := val_dig (B := 18446744073709551616) (by decide) x
  have vy := val_dig (B := 18446744073709551616) (by decide) y
  generalize dig 18446744073709551616 x = a at *
  generalize dig 18446744073709551616 y = b at *
  have h := nMul_l0 a b dx dy (by omega) (by omega) a.length 0 (List.replicate (a.length + b.length) 0) (by omega) (Dig.rep (by omega) _) (by simp) (fun p _ => by
    rw [List.getD_eq_getElem?_getD, List.getElem?_replicate]
    split <;> rfl)
  rw [V_zero, val_replicate, vx, vy, Nat.pow_zero, Nat.one_mul, Nat.zero_add] at h
  refine Ev.congr (fun k => ?_) h
  rw [nat_Mul.f, wadd a.length b.length (by omega), if_pos (by omega), Int.toNat_natCast, if_pos (by omega)]
  rfl
end Go.Proofs.YtcoipojikmgdmaaDoor.P
end
