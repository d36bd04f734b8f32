-- Written by a program of this session (wip/tools/shake.py) out of its own texts and of the kit's printed ones; not trusted: Lean checks it.
import Derived.Test.YthiicmanfpmipaaGreatDoorZFillOrder10
set_option maxHeartbeats 8000000
set_option maxRecDepth 100000
set_option linter.unusedVariables false
set_option linter.unusedSimpArgs false
section
namespace Go.Proofs.YthiicmanfpmipaaGreatDoor.P
open Go.RowKit Go.Proofs.YthiicmanfpmipaaGreatDoorW.PrintWords Go.Proofs.YthiicmanfpmipaaGreatDoorW.PrintLast Go.Proofs.YthiicmanfpmipaaGreatDoorW.PrintMore
attribute [local go_sem] zci zcg zcr zct zb3 zb5 zcf zcd
theorem gets_len (l : List (Nat × Nat)) (x : Rat) : (gets l x).length = l.length := List.length_map ..
theorem gets_get (l : List (Nat × Nat)) (x : Rat) (i : Nat) (hi : i < l.length) : (gets l x)[i]'(by rw [gets_len]; exact hi) = giv (levR l x) l[i] := List.getElem_map ..
theorem rdG (l : List (Nat × Nat)) (x : Rat) (i : Nat) (hi : i < l.length) : rd_T29 ((gets l x).map pR) (i : Int) = pR (giv (levR l x) l[i]) := by
 rw [rdP pR (gets l x) i (by rw [gets_len]; exact hi), gets_get l x i hi]
theorem bdG {l : List (Nat × Nat)} (hl : GoodK l) {x : Rat} {m : Nat} (hx : Bd x m) (i : Nat) (hi : i < l.length) : Bd (giv (levR l x) l[i]) (m + 101) := by
 have h := hl.2 l[i] (List.getElem_mem hi)
 exact bdGiv (bdLev hl hx) l[i] (by omega) (by omega)
theorem kids_len {ws cs : List Int} (h : ws.length = cs.length) : (kids ws cs).length = ws.length := by
 unfold kids
 rw [List.length_map, List.length_zip]
 omega
theorem isLev {l : List (Nat × Nat)} (hl : GoodK l) {x : Rat} (h0 : 0 ≤ x) (hc : x ≤ csum l) : IsLev l x (levR l x) := lev_ref l x (fun p hp => (hl.2 p hp).1) h0 hc
theorem fill_ex : fillV ((2 : Nat) : Rat) [1, 1, 8] [1, 1, 1] = ([pR (1 / 2), pR (1 / 2), pR 1], 0) := by
 have he : fillE ((2 : Nat) : Rat) [1, 1, 8] [1, 1, 1] = 0 := by decide +kernel
 have hL : gets (kids [1, 1, 8] [1, 1, 1]) ((2 : Nat) : Rat) = [1 / 2, 1 / 2, 1] := by decide +kernel
 unfold fillV
 rw [if_pos he, hL]
 rfl
theorem awakeE : Ev (fun k => zbq.f k) true := by
 have h := pFill (bdN (x := 2) (by omega)) (by omega) (ws := [1, 1, 8]) (cs := [1, 1, 1]) (by decide) (by decide)
 rw [fill_ex] at h
 have t1 : Ev (fun k => zay.f k (rN (1 / 2)) (rD (1 / 2))) (rT 1 2) := by
  have t := nRtext (x := 1) (y := 2) (m := 1) (by omega) (by omega) (by omega)
  have e1 : (1 / 2 : Rat).num.toNat = 1 := by decide +kernel
  have e2 : (1 / 2 : Rat).den = 2 := by decide +kernel
  unfold rN rD
  rw [e1, e2]
  exact t
 have t2 : Ev (fun k => zay.f k (rN 1) (rD 1)) (rT 1 1) := nRtext (x := 1) (y := 1) (m := 1) (by omega) (by omega) (by omega)
 have q1 : (rT 1 2).toList = ([49, 47, 50] : List UInt8) := by decide +kernel
 have q2 : ((rT 1 1).toList == ([49] : List UInt8)) = true := by decide +kernel
 refine Ev.bind (qIntN 2 (by omega)) (Ev.bind h (Ev.pos rfl (Ev.pos rfl (Ev.pos (by decide) (Ev.bind t1 (Ev.pos q1 (Ev.pos (by decide) (Ev.bind t2 ?_))))))))
 rw [q2]
 exact Ev.const _
end Go.Proofs.YthiicmanfpmipaaGreatDoor.P
end
section
namespace Go.Proofs.YthiicmanfpmipaaGreatDoor.P
open Go.RowKit Go.Proofs.YthiicmanfpmipaaGreatDoorW.PrintWords Go.Proofs.YthiicmanfpmipaaGreatDoorW.PrintLast Go.Proofs.YthiicmanfpmipaaGreatDoorW.PrintMore
attribute [local go_sem] zci zcg zcr zct zb3 zb5 zcf zcd
section
open Go.ChangeShapes Go.WideShapes Go.Deep
theorem ints_C {W : World} {a : Addr} {len : Nat} {zs : List Int} (hl : len ≤ zs.length) (hm : len ≤ 9223372036854775807) (hcell : ∀ i, i < zs.length → W.cell? (a.add i) = some (.int .i64 (zs.getD i 0))) : Kd.C (Kd.int .i64) W (some a) (zs.take len).length (zs.take len) := by
 refine Kd.C_of_reads (enc := Value.int .i64) (d := (0 : Int)) (h1 := fun _ => rfl) ⟨rfl, by rw [List.length_take]; omega, fun _ => ⟨a, rfl, fun j hj => ?_⟩⟩
 rw [List.length_take] at hj
 rw [hcell j (by omega), List.getD_eq_getElem?_getD, List.getD_eq_getElem?_getD, List.getElem?_take, if_pos (by omega)]
theorem wf_i64 {x : Int} (h : (Lit.int .i64 x).wf = true) : x < 9223372036854775808 := by
 have h2 : IntKind.i64.min ≤ x ∧ x ≤ 9223372036854775807 := by simpa [Lit.wf] using h
 omega
theorem open_X {H : Type} {enc : TypeId × Value → H} {W : World} {base : Nat} {spare : Nat → Bool} {held : Bool} {r : Reach} {b0 : Nat} {v : Value} {d : DataW H} {p : List MemPlace} (hval : Value.okWide Tryz.prog W r b0 23 v) (h : DataW.Trod enc Tryz.prog W base spare held 23 v d p) : ∃ a b : Int, v = .agg #[.int .i64 a, .int .i64 b] ∧ a < 9223372036854775808 ∧ b < 9223372036854775808 := by
 obtain ⟨va, vb, ya, yb, n, rfl, _, _, fa, fb⟩ := Joins.open_agg2 Tryz.underlying23 (by kernel_rfl) (by kernel_rfl) hval h
 obtain ⟨a, ea, _, wa⟩ := DataW.trod_int Tryz.underlying3 fa
 obtain ⟨b, eb, _, wb⟩ := DataW.trod_int Tryz.underlying3 fb
 simp only [List.cons.injEq, and_true] at ea eb
 exact ⟨a, b, by rw [ea, eb], wf_i64 wa, wf_i64 wb⟩
def Ints (W : World) (v : Value) (l : List Int) : Prop := ∃ A c, v = .slice A l.length c ∧ l.length ≤ c ∧ Kd.C (Kd.int .i64) W A l.length l
theorem open_ints4 {H : Type} {enc : TypeId × Value → H} {W : World} {base fuel : Nat} {held : Bool} {v : Value} {x : DataW H × List MemPlace} (h : DataW.trod enc Tryz.prog W base (fun _ => true) held fuel 24 [v] = some x) : ∃ l, Ints W v l := by
 rcases open_ints Tryz.underlying24 Tryz.underlying3 (by kernel_rfl) h with ⟨hcs, _⟩ | ⟨a, len, cap, zs, hcs, _, hl, hm, hz, _, hcell, hwz⟩
 ·
  simp only [List.cons.injEq, and_true] at hcs
  subst hcs
  exact ⟨[], none, 0, rfl, Nat.le_refl _, ⟨rfl, Nat.zero_le _, fun h => absurd h (Nat.lt_irrefl 0)⟩⟩
 ·
  simp only [List.cons.injEq, and_true] at hcs
  subst hcs
  have hz' : zs.length = cap := hz
  have hmx : maxLen ≤ 9223372036854775807 := by decide +kernel
  have hll : (zs.take len).length = len := by rw [List.length_take]; omega
  exact ⟨zs.take len, some a, cap, by rw [hll], by rw [hll]; exact hl, ints_C (by omega) (by omega) hcell⟩
theorem open_L2 {H : Type} {enc : TypeId × Value → H} {W : World} {base base2 : Nat} {held : Bool} {d : DataW H} {p : List MemPlace} {v : Value} (hv : Value.okWide Tryz.prog W .any base2 43 v)
  (h : DataW.Trod enc Tryz.prog W base (fun _ => true) held 43 v d p) : ∃ u0 u1 l0 l1, v = .agg #[u0, u1] ∧ Ints W u0 l0 ∧ Ints W u1 l1 := by
 have c3 : Tryz.prog.cellsOf 43 = 2 := by kernel_rfl
 have c5 : Tryz.prog.cellsOf 24 = 1 := by kernel_rfl
 have hv' := hv
 simp only [Value.okWide, Tryz.underlying43] at hv'
 obtain ⟨cs, rfl, hn, _⟩ := hv'
 rw [c3] at hn
 obtain ⟨fuel, hf⟩ := h
 obtain ⟨xs, k, hk, hxy, hcl, hxl, hel⟩ := DataW.trod_array Tryz.underlying43 hf
 obtain ⟨l, rfl⟩ : ∃ l : List Value, cs = l.toArray := ⟨cs.toList, rfl⟩
 obtain ⟨v0, v1, rfl⟩ : ∃ a b, l = [a, b] := by
  match l, (show l.length = 2 by simpa using hn) with
  | [a, b], _ => exact ⟨a, b, rfl⟩
 obtain ⟨y0, y1, rfl⟩ : ∃ a b, xs = [a, b] := by
  match xs, hxl with
  | [a, b], _ => exact ⟨a, b, rfl⟩
 have g0 := hel 0 (by decide)
 have g1 := hel 1 (by decide)
 simp [c5, Value.cells] at g0 g1
 obtain ⟨l0, h0⟩ := open_ints4 g0
 obtain ⟨l1, h1⟩ := open_ints4 g1
 exact ⟨v0, v1, l0, l1, rfl, h0, h1⟩
end
end Go.Proofs.YthiicmanfpmipaaGreatDoor.P
end
section
namespace Go.Proofs.YthiicmanfpmipaaGreatDoor.P
open Go.RowKit Go.Proofs.YthiicmanfpmipaaGreatDoorW.PrintWords Go.Proofs.YthiicmanfpmipaaGreatDoorW.PrintLast Go.Proofs.YthiicmanfpmipaaGreatDoorW.PrintMore
attribute [local go_sem] zci zcg zcr zct zb3 zb5 zcf zcd
def turnL {α : Type} (k : Nat) (l : List α) : List α := l.drop k ++ l.take k
theorem turn_any {α : Type} (p : α → Bool) (k : Nat) (l : List α) : (turnL k l).any p = l.any p := by
 unfold turnL
 rw [List.any_append, Bool.or_comm, ← List.any_append, List.take_append_drop]
theorem zdn {α : Type} (k : Nat) (l : List α) : (turnL k l).length = l.length := by
 unfold turnL
 rw [List.length_append, List.length_drop, List.length_take]
 omega
theorem turn_perm {α : Type} (k : Nat) (l : List α) : (turnL k l).Perm l := by
 unfold turnL
 refine List.perm_append_comm.trans ?_
 rw [List.take_append_drop]
theorem turn_kids (k : Nat) {ws cs : List Int} (h : ws.length = cs.length) : kids (turnL k ws) (turnL k cs) = turnL k (kids ws cs) := by
 unfold kids turnL
 rw [List.zip_append (by rw [List.length_drop, List.length_drop, h]), List.map_append]
 simp only [List.zip_eq_zipWith, ← List.map_drop, ← List.map_take, List.drop_zipWith, List.take_zipWith]
theorem turn_E (k : Nat) {x : Rat} {ws cs : List Int} (h : ws.length = cs.length) : fillE x (turnL k ws) (turnL k cs) = fillE x ws cs := by
 unfold fillE
 rw [zdn, zdn, turn_any, turn_any, turn_kids k h, csum_perm (turn_perm k (kids ws cs))]
theorem turn_lev (k : Nat) {l : List (Nat × Nat)} (hl : GoodK l) {x : Rat} (h0 : 0 ≤ x) (hc : x ≤ csum l) : levR (turnL k l) x = levR l x :=
 lev_unique (lev_perm (turn_perm k l) (lev_ref (turnL k l) x (fun p hp => (hl.2 p ((turn_perm k l).mem_iff.1 hp)).1) h0 (by rw [csum_perm (turn_perm k l)]; exact hc))) (isLev hl h0 hc)
theorem turn_get_ {α : Type} (k : Nat) (l : List α) (i : Nat) (hi : i < l.length) (hk : k < l.length) : (turnL k l)[(i + l.length - k) % l.length]? = l[i]? := by
 unfold turnL
 by_cases h : i < k
 ·
  rw [Nat.mod_eq_of_lt (show i + l.length - k < l.length by omega), List.getElem?_append_right (by rw [List.length_drop]; omega), List.length_drop, show i + l.length - k - (l.length - k) = i by omega, List.getElem?_take, if_pos h]
 ·
  rw [show i + l.length - k = (i - k) + l.length by omega, Nat.add_mod_right, Nat.mod_eq_of_lt (by omega), List.getElem?_append_left (by rw [List.length_drop]; omega), List.getElem?_drop, show k + (i - k) = i by omega]
theorem turn_get {α : Type} (k : Nat) (l : List α) (i : Nat) (hi : i < l.length) (hk : k < l.length) : (turnL k l)[(i + l.length - k) % l.length]'(by rw [zdn]; exact Nat.mod_lt _ (by omega)) = l[i] := by
 have h := turn_get_ k l i hi hk
 rw [List.getElem?_eq_getElem (by rw [zdn]; exact Nat.mod_lt _ (by omega)), List.getElem?_eq_getElem hi] at h
 exact Option.some.inj h
theorem order_l0 {x : Rat} (hx : Bd x 1) {l : List (Nat × Nat)} (hl : GoodK l) (hxc : x ≤ csum l) (k : Nat) (hk : k < l.length) : ∀ (d i : Nat), i + d = l.length →
  Ev (fun n => zaa.l0 n (k : Int) ((gets l x).map pR) ((gets (turnL k l) x).map pR) (l.length : Int) (i : Int)) true
 | 0, i, hi => Ev.step (fun _ => zaa.l0.eq_2 ..) (Ev.neg (by omega) (Ev.const _))
 | d + 1, i, hi => by
  have h32 := hl.1
  have hil : i < l.length := by omega
  have hn : ((gets l x).map pR).length = l.length := by rw [List.length_map, gets_len]
  have hn2 : ((gets (turnL k l) x).map pR).length = l.length := by rw [List.length_map, gets_len, zdn]
  have ih := order_l0 hx hl hxc k hk d (i + 1) (by omega)
  have hq : ((i + l.length - k) % l.length) < l.length := Nat.mod_lt _ (by omega)
  have ej : Int.tmod (wrap64 (wrap64 ((i : Int) + (l.length : Int)) - (k : Int))) (l.length : Int) = (((i + l.length - k) % l.length : Nat) : Int) := by
   rw [show wrap64 (wrap64 ((i : Int) + (l.length : Int)) - (k : Int)) = ((i + l.length - k : Nat) : Int) by unfold wrap64; omega]
   rfl
  have er : rd_T29 ((gets (turnL k l) x).map pR) (((i + l.length - k) % l.length : Nat) : Int) = pR (giv (levR l x) l[i]) := by
   rw [rdP pR (gets (turnL k l) x) _ (by rw [gets_len, zdn]; exact hq)]
   congr 1
   have e1 : (gets (turnL k l) x)[(i + l.length - k) % l.length]'(by rw [gets_len, zdn]; exact hq) = giv (levR (turnL k l) x) ((turnL k l)[(i + l.length - k) % l.length]'(by rw [zdn]; exact hq)) := gets_get ..
   rw [e1, turn_lev k hl hx.1 hxc, turn_get k l i hil hk]
  refine Ev.step (fun _ => zaa.l0.eq_2 ..) (Ev.pos (by omega) (Ev.pos (by omega) (Ev.pos (by rw [hn]; omega) (Ev.neg (by rw [hn2]; omega) ?_))))
  rw [hn2, ej, er, rdG l x i hil, show wrap64 ((i : Int) + 1) = ((i + 1 : Nat) : Int) by unfold wrap64; omega]
  exact Ev.pos (by omega) (Ev.pos (by omega) (Ev.bind (qCmp (bdG hl hx i hil) (bdG hl hx i hil) (by omega)) (Ev.pos (cmpR_self _) ih)))
theorem orderPure (a b t : Int) (ws cs : List Int) (ha : a < 9223372036854775808) (hb : b < 9223372036854775808) (ht0 : 0 ≤ t) (ht : t < 256) : Ev (fun k => zaa.f k a b ws cs t) true := by
 have hj : Ev (fun k => zaa.j0 k t ws cs true a b) true := Ev.step (fun _ => zaa.j0.eq_2 ..) (Ev.pos rfl (Ev.bind awakeE (Ev.const _)))
 refine Ev.bind awakeE (Ev.pos rfl ?_)
 by_cases h1 : (ws.length : Int) > 12
 ·
  exact Ev.pos h1 hj
 refine Ev.neg h1 ?_
 by_cases h2 : ¬ (cs.length : Int) = (ws.length : Int)
 ·
  exact Ev.neg h2 hj
 have h2 := Decidable.not_not.1 h2
 refine Ev.pos h2 ?_
 by_cases h3 : ws.length = 0
 ·
  rw [show ((ws.length : Int) == 0) = true from beq_iff_eq.mpr (by omega)]
  exact hj
 rw [show ((ws.length : Int) == 0) = false from beq_eq_false_iff_ne.mpr (by omega)]
 have hlen : ws.length = cs.length := by omega
 obtain ⟨x, hx, hB⟩ := bothX a b ha hb
 obtain ⟨tn, rfl⟩ := Int.eq_ofNat_of_zero_le ht0
 have hkk : Int.tmod (wrap64 ((tn : Nat) : Int)) (ws.length : Int) = ((tn % ws.length : Nat) : Int) := by
  rw [show wrap64 ((tn : Nat) : Int) = (tn : Int) by unfold wrap64; omega]
  rfl
 have hk : tn % ws.length < ws.length := Nat.mod_lt _ (by omega)
 generalize hkd : tn % ws.length = k at hkk hk
 have hF := pFill hx (by omega) (ws := ws) (cs := cs) (by omega) (by omega)
 have hF2 := pFill hx (by omega) (ws := turnL k ws) (cs := turnL k cs) (by rw [zdn]; omega) (by rw [zdn]; omega)
 refine Ev.step (fun _ => zaa.j0.eq_2 ..) (Ev.neg (by simp) (Ev.bind hB (Ev.neg (by omega) (Ev.plain rfl ?_))))
 rw [hkk, Int.toNat_natCast]
 refine Ev.pos (by omega) (Ev.pos (by omega) (Ev.pos (by rw [List.length_nil, List.length_drop]; omega) (Ev.plain rfl (Ev.pos (by rw [List.length_append, List.length_nil, List.length_drop, List.length_take]; omega) (Ev.plain rfl (Ev.pos (by omega) (Ev.pos (by rw [List.length_nil, List.length_drop]; omega) (Ev.plain rfl (Ev.pos (by rw [List.length_append, List.length_nil, List.length_drop, List.length_take]; omega) (Ev.bind hF (Ev.bind (F := fun n => zba.f n (rN x) (rD x) (turnL k ws) (turnL k cs)) hF2 ?_)))))))))))
 try dsimp only
 by_cases he : fillE x ws cs = 0
 ·
  obtain ⟨e1, hg, hxc, e2, e3⟩ := fillE_good he
  have he2 : fillE x (turnL k ws) (turnL k cs) = 0 := by rw [turn_E k hlen, he]
  rw [show fillV x ws cs = ((gets (kids ws cs) x).map pR, 0) from if_pos he, show fillV x (turnL k ws) (turnL k cs) = ((gets (kids (turnL k ws) (turnL k cs)) x).map pR, 0) from if_pos he2, turn_kids k hlen]
  dsimp only
  refine Ev.pos rfl ?_
  have hn : ((gets (kids ws cs) x).map pR).length = (kids ws cs).length := by rw [List.length_map, gets_len]
  have hn2 : ((gets (turnL k (kids ws cs)) x).map pR).length = (kids ws cs).length := by rw [List.length_map, gets_len, zdn]
  rw [show ((((gets (kids ws cs) x).map pR).length : Int) != (((gets (turnL k (kids ws cs)) x).map pR).length : Int)) = false by rw [hn, hn2]; simp]
  refine Ev.step (fun _ => zaa.j1.eq_2 ..) (Ev.neg (by simp) ?_)
  rw [hn]
  exact order_l0 hx hg hxc k (by rw [kids_len hlen]; exact hk) (kids ws cs).length 0 (by omega)
 ·
  have he2 : ¬ fillE x (turnL k ws) (turnL k cs) = 0 := by rw [turn_E k hlen]; exact he
  rw [show fillV x ws cs = ([], fillE x ws cs) from if_neg he, show fillV x (turnL k ws) (turnL k cs) = ([], fillE x (turnL k ws) (turnL k cs)) from if_neg he2, turn_E k hlen]
  refine Ev.pos rfl (Ev.step (fun _ => zaa.j1.eq_2 ..) (Ev.neg (by simp) (Ev.step (fun _ => zaa.l0.eq_2 ..) (Ev.neg (by simp) (Ev.const _)))))
theorem lFillOrder {H : Type} {enc : TypeId × Value → H} {W : World} {base b0 b1 : Nat} {held : Bool} {d0 d1 : DataW H} {p0 p1 : List MemPlace} (v0 v1 : Value) (t : Int) (k0 : Value.okWide Tryz.prog W .any b0 23 v0) (k1 : Value.okWide Tryz.prog W .any b1 43 v1) (ht : (Lit.int .u8 t).wf = true)
  (h0 : DataW.Trod enc Tryz.prog W base (fun _ => true) held 23 v0 d0 p0) (h1 : DataW.Trod enc Tryz.prog W base (fun _ => true) held 43 v1 d1 p1) (hG : Glob W) :
  Calls Tryz.prog 4 #[v0, v1, .int .u8 t] W fun e w' => e = .returned (.bool true) ∧ Below W.heap.size W w' := by
 obtain ⟨a, b, rfl, ha, hb⟩ := open_X k0 h0
 obtain ⟨u0, u1, ws, cs, rfl, ⟨A1, c1, rfl, hc1, hr1⟩, ⟨A2, c2, rfl, hc2, hr2⟩⟩ := open_L2 k1 h1
 have htb : 0 ≤ t ∧ t < 256 := by
  have := bounds_u8 ht
  omega
 obtain ⟨k, hk⟩ := (orderPure a b t ws cs ha hb htb.1 htb.2).get
 exact zaa.calls k a b A1 c1 ws A2 c2 cs t true W hr1 hc1 hr2 hc2 hG hk
end Go.Proofs.YthiicmanfpmipaaGreatDoor.P
end
