-- Written by a program of this session (wip/tools/shake.py) out of its own texts and of the kit's printed ones; not trusted: Lean checks it.
import Derived.Test.YthiicmanfpmipaaGreatDoorZFillScales10
set_option maxHeartbeats 8000000
set_option maxRecDepth 100000
set_option linter.unusedVariables false
set_option linter.unusedSimpArgs false
section
namespace Go.Proofs.YthiicmanfpmipaaGreatDoor.P
open Go.RowKit Go.Proofs.YthiicmanfpmipaaGreatDoorW.PrintWords Go.Proofs.YthiicmanfpmipaaGreatDoorW.PrintLast Go.Proofs.YthiicmanfpmipaaGreatDoorW.PrintMore
attribute [local go_sem] zci zcj zcs zcr zb9 zca zcg zch
def timesI (k : Nat) (ws : List Int) : List Int := ws.map fun w => w * (k : Int)
theorem times_kids (k : Nat) : ∀ (ws cs : List Int), (∀ w ∈ ws, 0 ≤ w) → kids (timesI k ws) cs = timesL k (kids ws cs)
 | [], _, _ => rfl
 | w :: ws, [], _ => rfl
 | w :: ws, c :: cs, h => by
  have ih := times_kids k ws cs fun v hv => h v (List.mem_cons_of_mem _ hv)
  have h0 := h w List.mem_cons_self
  show ((w * (k : Int)).toNat, c.toNat) :: kids (timesI k ws) cs = (w.toNat * k, c.toNat) :: timesL k (kids ws cs)
  rw [ih]
  obtain ⟨n, rfl⟩ := Int.eq_ofNat_of_zero_le h0
  rw [← Int.natCast_mul, Int.toNat_natCast, Int.toNat_natCast]
theorem times_csum (k : Nat) : ∀ l : List (Nat × Nat), csum (timesL k l) = csum l
 | [] => rfl
 | p :: l => by
  have ih := times_csum k l
  show (p.2 : Rat) + csum (timesL k l) = (p.2 : Rat) + csum l
  rw [ih]
theorem times_odd (k : Nat) (hk : 1 ≤ k) (hk9 : k ≤ 9) (ws : List Int) (h : ∀ w ∈ ws, 1 ≤ w ∧ w ≤ 1000) : (timesI k ws).any oddW = false ∧ ws.any oddW = false := by
 have key : ∀ v : Int, 1 ≤ v → v ≤ 10000 → oddW v = false := fun v h1 h2 => by
  unfold oddW
  rw [decide_eq_false (by omega), decide_eq_false (by omega)]
  rfl
 constructor
 ·
  refine List.any_eq_false.2 fun v hv => ?_
  obtain ⟨w, hw, rfl⟩ := List.mem_map.1 hv
  obtain ⟨h1, h2⟩ := h w hw
  obtain ⟨n, rfl⟩ := Int.eq_ofNat_of_zero_le (show 0 ≤ w by omega)
  have h3 : n * k ≤ 1000 * 9 := Nat.mul_le_mul (by omega) hk9
  have h4 : 1 * 1 ≤ n * k := Nat.mul_le_mul (by omega) hk
  rw [← Int.natCast_mul, key _ (by omega) (by omega)]
  decide
 ·
  refine List.any_eq_false.2 fun w hw => ?_
  obtain ⟨h1, h2⟩ := h w hw
  rw [key w h1 (by omega)]
  decide
theorem times_E (k : Nat) (hk : 1 ≤ k) (hk9 : k ≤ 9) {x : Rat} {ws cs : List Int} (h : ∀ w ∈ ws, 1 ≤ w ∧ w ≤ 1000) : fillE x (timesI k ws) cs = fillE x ws cs := by
 obtain ⟨o1, o2⟩ := times_odd k hk hk9 ws h
 unfold fillE
 rw [o1, o2, show (timesI k ws).length = ws.length from List.length_map .., times_kids k ws cs (fun w hw => by have := h w hw; omega), times_csum]
theorem times_gets (k : Nat) (hk : 1 ≤ k) {l : List (Nat × Nat)} (hl : GoodK l) {x : Rat} (h0 : 0 ≤ x) (hc : x ≤ csum l) : gets (timesL k l) x = gets l x := by
 have h1 := isLev hl h0 hc
 have h2 : IsLev (timesL k l) x (levR (timesL k l) x) := lev_ref _ x (fun p hp => by
  obtain ⟨q, hq, rfl⟩ := List.mem_map.1 hp
  have := (hl.2 q hq).1
  exact Nat.le_trans (by omega : 1 ≤ q.1 * 1) (Nat.mul_le_mul_left _ hk)) h0 (by rw [times_csum]; exact hc)
 unfold gets
 show (l.map fun p => (p.1 * k, p.2)).map (giv (levR (timesL k l) x)) = l.map (giv (levR l x))
 rw [List.map_map]
 exact List.map_congr_left fun p _ => giv_scales k hk h1 h2 p
theorem scales_l1 {x : Rat} (hx : Bd x 1) {l : List (Nat × Nat)} (hl : GoodK l) (hxc : x ≤ csum l) : ∀ (d i : Nat), i + d = l.length →
  Ev (fun n => zaa.l1 n ((gets l x).map pR) 0 ((gets l x).map pR) (l.length : Int) (i : Int) (rN x) (rD x)) true
 | 0, i, hi => by
  have hn : ((gets l x).map pR).length = l.length := by rw [List.length_map, gets_len]
  refine Ev.step (fun _ => zaa.l1.eq_2 ..) (Ev.neg (by omega) (Ev.pos rfl ?_))
  by_cases h1 : l.length = 1
  ·
   refine Ev.pos (by rw [hn, h1]; rfl) (Ev.pos (by rw [hn, h1]; decide) ?_)
   have h0 : 0 < l.length := by omega
   have hr := rdG l x 0 h0
   rw [show (((0 : Nat) : Int)) = 0 from rfl] at hr
   rw [hr]
   have e : giv (levR l x) l[0] = x := by
    have hL := isLev hl hx.1 hxc
    match l, h1, hL with
    | [p], _, hL => exact giv_one hL
   have hb := bdG hl hx 0 h0
   refine Ev.bind (qCmp hb hx (by omega)) ?_
   rw [e, cmpR_self]
   exact Ev.const _
  ·
   exact Ev.neg (by rw [hn]; omega) (Ev.const _)
 | d + 1, i, hi => by
  have h32 := hl.1
  have hil : i < l.length := by omega
  have hn : ((gets l x).map pR).length = l.length := by rw [List.length_map, gets_len]
  have ih := scales_l1 hx hl hxc d (i + 1) (by omega)
  refine Ev.step (fun _ => zaa.l1.eq_2 ..) (Ev.pos (by omega) (Ev.pos (by omega) (Ev.pos (by rw [hn]; omega) (Ev.pos (by rw [hn]; omega) ?_))))
  rw [rdG l x i hil, show wrap64 ((i : Int) + 1) = ((i + 1 : Nat) : Int) by unfold wrap64; omega]
  exact Ev.bind (qCmp (bdG hl hx i hil) (bdG hl hx i hil) (by omega)) (Ev.pos (cmpR_self _) ih)
theorem scales_end {x : Rat} (hx : Bd x 1) {k : Nat} (hk : 1 ≤ k) (hk9 : k ≤ 9) {ws cs : List Int} (hw : ws.length ≤ 12) (hc : cs.length ≤ 12) (h : ∀ w ∈ ws, 1 ≤ w ∧ w ≤ 1000) (i : Nat) (hi : ws.length ≤ i) :
  Ev (fun n => zaa.l0 n ws cs (k : Int) (timesI k ws) ws (ws.length : Int) (i : Int) (rN x) (rD x)) true := by
 have hF := pFill hx (by omega) (ws := ws) (cs := cs) (by omega) (by omega)
 have hF2 := pFill hx (by omega) (ws := timesI k ws) (cs := cs) (by rw [show (timesI k ws).length = ws.length from List.length_map ..]; omega) (by omega)
 refine Ev.step (fun _ => zaa.l0.eq_2 ..) (Ev.neg (by omega) (Ev.bind hF (Ev.bind hF2 ?_)))
 try dsimp only
 by_cases he : fillE x ws cs = 0
 ·
  obtain ⟨e1, hg, hxc, e2, e3⟩ := fillE_good he
  have he2 : fillE x (timesI k ws) cs = 0 := by rw [times_E k hk hk9 h, he]
  rw [show fillV x ws cs = ((gets (kids ws cs) x).map pR, 0) from if_pos he, show fillV x (timesI k ws) cs = ((gets (kids (timesI k ws) cs) x).map pR, 0) from if_pos he2, times_kids k ws cs (fun w hw => by have := h w hw; omega), times_gets k hk hg hx.1 hxc]
  dsimp only
  have hn : ((gets (kids ws cs) x).map pR).length = (kids ws cs).length := by rw [List.length_map, gets_len]
  refine Ev.pos rfl ?_
  rw [show ((((gets (kids ws cs) x).map pR).length : Int) != (((gets (kids ws cs) x).map pR).length : Int)) = false by simp]
  refine Ev.step (fun _ => zaa.j2.eq_2 ..) (Ev.neg (by simp) ?_)
  rw [hn]
  exact scales_l1 hx hg hxc (kids ws cs).length 0 (by omega)
 ·
  have he2 : ¬ fillE x (timesI k ws) cs = 0 := by rw [times_E k hk hk9 h]; exact he
  rw [show fillV x ws cs = ([], fillE x ws cs) from if_neg he, show fillV x (timesI k ws) cs = ([], fillE x (timesI k ws) cs) from if_neg he2, times_E k hk hk9 h]
  refine Ev.pos rfl (Ev.step (fun _ => zaa.j2.eq_2 ..) (Ev.neg (by simp) (Ev.step (fun _ => zaa.l1.eq_2 ..) (Ev.neg (by simp) (Ev.neg he (Ev.const _))))))
theorem scales_l0 {x : Rat} (hx : Bd x 1) {k : Nat} (hk : 1 ≤ k) (hk9 : k ≤ 9) {ws cs : List Int} (hw : ws.length ≤ 12) (hc : cs.length ≤ 12) : ∀ (d i : Nat), i + d = ws.length → (∀ w ∈ ws.take i, 1 ≤ w ∧ w ≤ 1000) →
  Ev (fun n => zaa.l0 n ws cs (k : Int) (timesI k (ws.take i)) ws (ws.length : Int) (i : Int) (rN x) (rD x)) true
 | 0, i, hi, h => by
  rw [List.take_of_length_le (by omega)] at h ⊢
  exact scales_end hx hk hk9 hw hc h i (by omega)
 | d + 1, i, hi, h => by
  have hil : i < ws.length := by omega
  have htk : ws.take (i + 1) = ws.take i ++ [ws[i]] := List.take_succ_eq_append_getElem hil
  refine Ev.step (fun _ => zaa.l0.eq_2 ..) (Ev.pos (by omega) (Ev.pos (by omega) (Ev.pos (by omega) ?_)))
  rw [rd_get ws i hil]
  by_cases h1 : ws[i] < 1
  ·
   exact Ev.pos h1 (Ev.const _)
  refine Ev.neg h1 ?_
  by_cases h2 : ws[i] > 1000
  ·
   exact Ev.pos h2 (Ev.const _)
  refine Ev.neg h2 (Ev.pos (by unfold timesI; rw [List.length_map, List.length_take]; omega) ?_)
  have hm : wrap64 (ws[i] * (k : Int)) = ws[i] * (k : Int) := by
   obtain ⟨n, hn⟩ := Int.eq_ofNat_of_zero_le (show 0 ≤ ws[i] by omega)
   have h3 : n * k ≤ 1000 * 9 := Nat.mul_le_mul (by omega) hk9
   rw [hn, ← Int.natCast_mul]
   unfold wrap64
   omega
  rw [hm, show wrap64 ((i : Int) + 1) = ((i + 1 : Nat) : Int) by unfold wrap64; omega]
  have ih := scales_l0 hx hk hk9 hw hc d (i + 1) (by omega) (by
   rw [htk]
   intro w hw2
   rcases List.mem_append.1 hw2 with h3 | h3
   ·
    exact h w h3
   ·
    rw [List.mem_singleton] at h3
    subst h3
    omega)
  rw [htk] at ih
  unfold timesI at ih ⊢
  rw [List.map_append] at ih
  exact ih
theorem scalesPure (a b t : Int) (ws cs : List Int) (ha : a < 9223372036854775808) (hb : b < 9223372036854775808) (ht0 : 0 ≤ t) (ht : t < 256) : Ev (fun k => zaa.f k a b ws cs t) true := by
 obtain ⟨tn, rfl⟩ := Int.eq_ofNat_of_zero_le ht0
 obtain ⟨k, hk, hk1, hk9⟩ : ∃ k : Nat, wrap64 (1 + Int.tmod (wrap64 ((tn : Nat) : Int)) 9) = (k : Int) ∧ 1 ≤ k ∧ k ≤ 9 := by
  refine ⟨1 + tn % 9, ?_, by omega, by omega⟩
  rw [show wrap64 ((tn : Nat) : Int) = (tn : Int) by unfold wrap64; omega, show Int.tmod (tn : Int) 9 = ((tn % 9 : Nat) : Int) from rfl]
  unfold wrap64
  omega
 have hj : ∀ q : Int, Ev (fun k => zaa.j0 k ws cs q true a b) true := fun q => Ev.step (fun _ => zaa.j0.eq_2 ..) (Ev.pos rfl (Ev.bind awakeE (Ev.const _)))
 refine Ev.bind awakeE (Ev.pos rfl ?_)
 by_cases h1 : (ws.length : Int) > 12
 ·
  exact Ev.pos h1 (hj _)
 refine Ev.neg h1 ?_
 by_cases h2 : (cs.length : Int) > 12
 ·
  rw [decide_eq_true h2]
  exact hj _
 rw [decide_eq_false h2, hk]
 obtain ⟨x, hx, hB⟩ := bothX a b ha hb
 refine Ev.step (fun _ => zaa.j0.eq_2 ..) (Ev.neg (by simp) (Ev.bind hB ?_))
 exact scales_l0 hx hk1 hk9 (by omega) (by omega) ws.length 0 (by omega) (by simp)
theorem lFillScales {H : Type} {enc : TypeId × Value → H} {W : World} {base b0 b1 : Nat} {held : Bool} {d0 d1 : DataW H} {p0 p1 : List MemPlace} (v0 v1 : Value) (t : Int) (k0 : Value.okWide Tryz.prog W .any b0 23 v0) (k1 : Value.okWide Tryz.prog W .any b1 43 v1) (ht : (Lit.int .u8 t).wf = true)
  (h0 : DataW.Trod enc Tryz.prog W base (fun _ => true) held 23 v0 d0 p0) (h1 : DataW.Trod enc Tryz.prog W base (fun _ => true) held 43 v1 d1 p1) (hG : Glob W) :
  Calls Tryz.prog 5 #[v0, v1, .int .u8 t] W fun e w' => e = .returned (.bool true) ∧ Below W.heap.size W w' := by
 obtain ⟨a, b, rfl, ha, hb⟩ := open_X k0 h0
 obtain ⟨u0, u1, ws, cs, rfl, ⟨A1, c1, rfl, hc1, hr1⟩, ⟨A2, c2, rfl, hc2, hr2⟩⟩ := open_L2 k1 h1
 have htb : 0 ≤ t ∧ t < 256 := by
  have := bounds_u8 ht
  omega
 obtain ⟨k, hk⟩ := (scalesPure a b t ws cs ha hb htb.1 htb.2).get
 exact zaa.calls k a b A1 c1 ws A2 c2 cs t true W hr1 hc1 hr2 hc2 hG hk
end Go.Proofs.YthiicmanfpmipaaGreatDoor.P
end
