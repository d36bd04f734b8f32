-- Written by a program of this session (wip/tools/shake.py) out of its own texts and of the kit's printed ones; not trusted: Lean checks it.
import Derived.Test.YthiicmanfpmipaaGreatDoorZFillCaps10
set_option maxHeartbeats 8000000
set_option maxRecDepth 100000
set_option linter.unusedVariables false
set_option linter.unusedSimpArgs false
section
namespace Go.Proofs.YthiicmanfpmipaaGreatDoor.P
open Go.RowKit Go.Proofs.YthiicmanfpmipaaGreatDoorW.PrintWords Go.Proofs.YthiicmanfpmipaaGreatDoorW.PrintLast Go.Proofs.YthiicmanfpmipaaGreatDoorW.PrintMore
attribute [local go_sem] zcf zci zcu zct zb6 zb2 zch zce
def sN (r : Rat) : List Int := dig 10000 r.num.toNat
def sD (r : Rat) : List Int := dig 10000 r.den
theorem mkRat_nat (x y : Nat) : mkRat (x : Int) y = (x : Rat) / (y : Rat) := by
 rw [Rat.mkRat_eq_div]
 rfl
theorem bdBy (p : Nat × Nat) (hp1 : p.1 < 1000000) (hp2 : p.2 < 1000000) (h : 1 ≤ p.1) : Bd (ful p) 1 := by
 have hd := Bd.mk (x := p.2) (y := p.1) (m := 1) (by omega) (by omega) (by omega)
 rw [mkRat_nat] at hd
 exact hd
theorem rd_fst (l : List (Nat × Nat)) (i : Nat) (hi : i < l.length) : rd (l.map fun p => (p.1 : Int)) (i : Int) = (l[i].1 : Int) := by unfold rd; simp [hi]
theorem rd_snd (l : List (Nat × Nat)) (i : Nat) (hi : i < l.length) : rd (l.map fun p => (p.2 : Int)) (i : Int) = (l[i].2 : Int) := by unfold rd; simp [hi]
theorem bd0 : Bd 0 1 := ⟨Rat.le_refl, by rw [Nat.pow_one]; decide, by rw [Nat.pow_one]; decide⟩
theorem bdTot {L : Rat} {k : Nat} (hL : Bd L k) : ∀ (l : List (Nat × Nat)), (∀ p ∈ l, p.1 < 1000000 ∧ p.2 < 1000000) → Bd (tot L l) (l.length * (k + 2) + 1)
 | [], _ => bd0.le (by omega)
 | p :: l, h => by
  have h1 := h p List.mem_cons_self
  have ih := bdTot hL l fun q hq => h q (List.mem_cons_of_mem _ hq)
  show Bd (giv L p + tot L l) _
  exact ((bdGiv hL p h1.1 h1.2).add ih).le (by rw [List.length_cons, Nat.add_mul]; omega)
theorem bdTot32 {L : Rat} {k : Nat} (hL : Bd L k) {l : List (Nat × Nat)} (hl : l.length ≤ 32) (h : ∀ p ∈ l, p.1 < 1000000 ∧ p.2 < 1000000) : Bd (tot L l) (32 * (k + 2) + 1) :=
 (bdTot hL l h).le (by have := Nat.mul_le_mul_right (k + 2) hl; omega)
theorem GoodK.small {l : List (Nat × Nat)} (h : GoodK l) : ∀ p ∈ l, p.1 < 1000000 ∧ p.2 < 1000000 := fun p hp => by
 have := h.2 p hp
 omega
theorem bdLow {l : List (Nat × Nat)} {x : Rat} : ∀ (m : List (Nat × Nat)) (low : Rat), (∀ p ∈ m, 1 ≤ p.1 ∧ p.1 ≤ 10000 ∧ p.2 ≤ 64) → Bd low 1 → Bd (lowR l x low m) 1
 | [], low, _, h => h
 | p :: m, low, hm, h => by
  have h1 := hm p List.mem_cons_self
  unfold lowR
  refine bdLow m _ (fun q hq => hm q (List.mem_cons_of_mem _ hq)) ?_
  split
  ·
   exact bdBy p (by omega) (by omega) h1.1
  ·
   exact h
def openN (low : Rat) : List (Nat × Nat) → Nat
 | [] => 0
 | p :: l => (if low < ful p then p.1 else 0) + openN low l
theorem openN_eq (low : Rat) : ∀ l, openR low l = (openN low l : Rat)
 | [] => rfl
 | p :: l => by
  unfold openR openN
  rw [openN_eq low l, Rat.natCast_add]
  split <;> rfl
theorem openN_le (low : Rat) : ∀ l : List (Nat × Nat), (∀ p ∈ l, p.1 ≤ 10000) → openN low l ≤ 10000 * l.length
 | [], _ => Nat.le_refl _
 | p :: l, h => by
  have h1 := h p List.mem_cons_self
  have h2 := openN_le low l fun q hq => h q (List.mem_cons_of_mem _ hq)
  unfold openN
  rw [List.length_cons]
  split <;> omega
theorem tot_low {l : List (Nat × Nat)} {x : Rat} (hx : 0 ≤ x) : tot (lowR l x 0 l) l ≤ x := by
 obtain ⟨_, i2, _⟩ := lowR_facts l x l 0 Rat.le_refl (.inl rfl)
 rcases i2 with h | h
 ·
  rw [h, tot_zero]
  exact hx
 ·
  grind
theorem levR_eq (l : List (Nat × Nat)) (x : Rat) : levR l x = if openN (lowR l x 0 l) l = 0 ∨ x - tot (lowR l x 0 l) l = 0 then lowR l x 0 l else lowR l x 0 l + (x - tot (lowR l x 0 l) l) / (openN (lowR l x 0 l) l : Rat) := by
 unfold levR
 dsimp only
 rw [openN_eq]
 by_cases h : openN (lowR l x 0 l) l = 0
 ·
  rw [if_pos (show ((openN (lowR l x 0 l) l : Nat) : Rat) = 0 ∨ x - tot (lowR l x 0 l) l = 0 from .inl (by rw [h]; rfl)), if_pos (show openN (lowR l x 0 l) l = 0 ∨ x - tot (lowR l x 0 l) l = 0 from .inl h)]
 ·
  have h2 : ((openN (lowR l x 0 l) l : Nat) : Rat) ≠ 0 := Rat.ne_of_gt (Rat.natCast_pos.2 (Nat.pos_of_ne_zero h))
  by_cases h3 : x - tot (lowR l x 0 l) l = 0
  ·
   rw [if_pos (.inr h3), if_pos (.inr h3)]
  ·
   rw [if_neg (fun e => e.elim h2 h3), if_neg (fun e => e.elim h h3)]
theorem bdLev {l : List (Nat × Nat)} (hl : GoodK l) {x : Rat} {k : Nat} (hx : Bd x k) : Bd (levR l x) (k + 100) := by
 have hb := bdLow (l := l) (x := x) l 0 hl.2 bd0
 rw [levR_eq]
 split
 ·
  exact hb.le (by omega)
 ·
  rename_i h
  have ho : openN (lowR l x 0 l) l ≠ 0 := fun e => h (.inl e)
  have hle := openN_le (lowR l x 0 l) l fun p hp => (hl.2 p hp).2.1
  have h32 := hl.1
  have ht := bdTot32 hb hl.1 hl.small
  have hd := (hx.sub ht (tot_low hx.1)).div (bdN (x := openN (lowR l x 0 l) l) (by omega)) (Rat.natCast_pos.2 (by omega))
  exact (hb.add hd).le (by omega)
def pR (r : Rat) : S29 := ⟨rN r, rD r⟩
theorem getD_map {α β : Type} (f : α → β) (l : List α) (i : Nat) (hi : i < l.length) (z : β) : (l.map f).getD i z = f l[i] := by
 rw [List.getD_eq_getElem?_getD, List.getElem?_map, List.getElem?_eq_getElem hi]
 rfl
theorem rdP {α : Type} (f : α → S29) (l : List α) (i : Nat) (hi : i < l.length) : rd_T29 (l.map f) (i : Int) = f l[i] := by
 unfold rd_T29
 rw [Int.toNat_natCast, getD_map f l i hi]
theorem rdC {α : Type} (f : α → S90) (l : List α) (i : Nat) (hi : i < l.length) : rd_T90 (l.map f) (i : Int) = f l[i] := by
 unfold rd_T90
 rw [Int.toNat_natCast, getD_map f l i hi]
def gets (l : List (Nat × Nat)) (x : Rat) : List Rat := l.map (giv (levR l x))
def fillV (x : Rat) (ws cs : List Int) : List S29 × Int := if fillE x ws cs = 0 then ((gets (kids ws cs) x).map pR, 0) else ([], fillE x ws cs)
theorem pFill_l0 {L : Rat} {m : Nat} (hL : Bd L m) (hm : m ≤ 3000) (l : List (Nat × Nat)) (hl : GoodK l) : ∀ (d i : Nat) (acc : List S29), i + d = l.length → acc.length = i →
  Ev (fun k => zbz.l0 k acc (l.map chOf) (l.length : Int) (i : Int) (rN L) (rD L)) (acc ++ ((l.drop i).map (giv L)).map pR, 0)
 | 0, i, acc, hi, ha => by
  rw [List.drop_of_length_le (by omega), List.map_nil, List.map_nil, List.append_nil]
  exact Ev.step (fun _ => zbz.l0.eq_2 ..) (Ev.neg (by omega) (Ev.const _))
 | d + 1, i, acc, hi, ha => by
  have hil : i < l.length := by omega
  have h32 := hl.1
  have hpi := hl.2 l[i] (List.getElem_mem hil)
  refine Ev.step (fun _ => zbz.l0.eq_2 ..) (Ev.pos (by omega) (Ev.pos (by omega) (Ev.pos (by rw [List.length_map]; omega) ?_)))
  rw [rdC chOf l i hil, show wrap64 ((i : Int) + 1) = ((i + 1 : Nat) : Int) by unfold wrap64; omega]
  refine Ev.bind (gGiven hL hm l[i] (by omega) (by omega)) (Ev.pos (by omega) ?_)
  have h := pFill_l0 hL hm l hl d (i + 1) (acc ++ [pR (giv L l[i])]) (by omega) (by rw [List.length_append, ha]; rfl)
  rw [List.drop_eq_getElem_cons hil, List.map_cons, List.map_cons]
  rw [List.append_assoc] at h
  exact h
theorem pFill {x : Rat} {m : Nat} (hx : Bd x m) (hm : m ≤ 2900) {ws cs : List Int} (hw : ws.length ≤ 1000) (hc : cs.length ≤ 1000) : Ev (fun k => zbz.f k (rN x) (rD x) ws cs) (fillV x ws cs) := by
 have h1 : Ev (fun k => zc2.f k (rN x) (rD x) ws cs) (chV x ws cs) := Ev.of fun _ => chF_rt (hx.le (by omega)) hw hc
 unfold fillV
 by_cases he : fillE x ws cs = 0
 ·
  have h2 : chV x ws cs = ((kids ws cs).map chOf, 0) := if_pos he
  rw [h2] at h1
  rw [if_pos he]
  obtain ⟨e1, hg, hxc, -, -⟩ := fillE_good he
  have h3 : Ev (fun k => fill_level.f k (rN x) (rD x) ((kids ws cs).map chOf)) (rN (levR (kids ws cs) x), rD (levR (kids ws cs) x)) := Ev.of fun _ => lvF_rt (hx.le (by omega)) hg hxc
  refine Ev.bind h1 (Ev.pos rfl (Ev.bind h3 ?_))
  have h4 := pFill_l0 (bdLev hg hx) (by omega) (kids ws cs) hg (kids ws cs).length 0 [] (by omega) rfl
  rw [List.drop_zero, List.nil_append] at h4
  have e : (((kids ws cs).map chOf).length : Int) = ((kids ws cs).length : Int) := by rw [List.length_map]
  dsimp only
  rw [e]
  exact h4
 ·
  have h2 : chV x ws cs = ([], fillE x ws cs) := if_neg he
  rw [h2] at h1
  rw [if_neg he]
  exact Ev.bind h1 (Ev.neg he (Ev.const _))
theorem bothX (a b : Int) (ha : a < 9223372036854775808) (hb : b < 9223372036854775808) : ∃ x, Bd x 1 ∧ Ev (fun k => zaw.f k a b) (rN x, rD x, sN x, sD x) := by
 obtain ⟨n, hn, hn2⟩ : ∃ n : Nat, mx a 0 = (n : Int) ∧ n < 9223372036854775808 := by
  unfold mx
  split
  ·
   exact ⟨0, rfl, by omega⟩
  ·
   exact ⟨a.toNat, by omega, by omega⟩
 obtain ⟨m, hm, hm2, hm3⟩ : ∃ m : Nat, mx b 1 = (m : Int) ∧ m < 9223372036854775808 ∧ 1 ≤ m := by
  unfold mx
  split
  ·
   exact ⟨1, rfl, by omega, by omega⟩
  ·
   exact ⟨b.toNat, by omega, by omega, by omega⟩
 have p1 : n < 18446744073709551616 ^ 1 := by rw [Nat.pow_one]; omega
 have p2 : m < 18446744073709551616 ^ 1 := by rw [Nat.pow_one]; omega
 refine ⟨mkRat (n : Int) m, Bd.mk (by omega) p1 p2, ?_⟩
 unfold zaw.f
 rw [hn, hm, u64s (by omega) (by omega), u64s (by omega) (by omega)]
 exact Ev.bind (nOf n (by omega)) (Ev.bind (nOf m (by omega)) (Ev.bind (qOf (by omega) p1 p2 (by omega)) (Ev.bind (rOf n (by omega)) (Ev.bind (rOf m (by omega)) (Ev.bind (dOf (by omega) p1 p2 (by omega)) (Ev.const _))))))
theorem gets_len (l : List (Nat × Nat)) (x : Rat) : (gets l x).length = l.length := List.length_map ..
theorem gets_get (l : List (Nat × Nat)) (x : Rat) (i : Nat) (hi : i < l.length) : (gets l x)[i]'(by rw [gets_len]; exact hi) = giv (levR l x) l[i] := List.getElem_map ..
theorem rdG (l : List (Nat × Nat)) (x : Rat) (i : Nat) (hi : i < l.length) : rd_T29 ((gets l x).map pR) (i : Int) = pR (giv (levR l x) l[i]) := by
 rw [rdP pR (gets l x) i (by rw [gets_len]; exact hi), gets_get l x i hi]
theorem bdG {l : List (Nat × Nat)} (hl : GoodK l) {x : Rat} {m : Nat} (hx : Bd x m) (i : Nat) (hi : i < l.length) : Bd (giv (levR l x) l[i]) (m + 101) := by
 have h := hl.2 l[i] (List.getElem_mem hi)
 exact bdGiv (bdLev hl hx) l[i] (by omega) (by omega)
theorem kids_len {ws cs : List Int} (h : ws.length = cs.length) : (kids ws cs).length = ws.length := by
 unfold kids
 rw [List.length_map, List.length_zip]
 omega
theorem fill_ex : fillV ((2 : Nat) : Rat) [1, 1, 8] [1, 1, 1] = ([pR (1 / 2), pR (1 / 2), pR 1], 0) := by
 have he : fillE ((2 : Nat) : Rat) [1, 1, 8] [1, 1, 1] = 0 := by decide +kernel
 have hL : gets (kids [1, 1, 8] [1, 1, 1]) ((2 : Nat) : Rat) = [1 / 2, 1 / 2, 1] := by decide +kernel
 unfold fillV
 rw [if_pos he, hL]
 rfl
theorem awakeE : Ev (fun k => zbw.f k) true := by
 have h := pFill (bdN (x := 2) (by omega)) (by omega) (ws := [1, 1, 8]) (cs := [1, 1, 1]) (by decide) (by decide)
 rw [fill_ex] at h
 have t1 : Ev (fun k => za0.f k (rN (1 / 2)) (rD (1 / 2))) (rT 1 2) := by
  have t := nRtext (x := 1) (y := 2) (m := 1) (by omega) (by omega) (by omega)
  have e1 : (1 / 2 : Rat).num.toNat = 1 := by decide +kernel
  have e2 : (1 / 2 : Rat).den = 2 := by decide +kernel
  unfold rN rD
  rw [e1, e2]
  exact t
 have t2 : Ev (fun k => za0.f k (rN 1) (rD 1)) (rT 1 1) := nRtext (x := 1) (y := 1) (m := 1) (by omega) (by omega) (by omega)
 have q1 : (rT 1 2).toList = ([49, 47, 50] : List UInt8) := by decide +kernel
 have q2 : ((rT 1 1).toList == ([49] : List UInt8)) = true := by decide +kernel
 refine Ev.bind (qIntN 2 (by omega)) (Ev.bind h (Ev.pos rfl (Ev.pos rfl (Ev.pos (by decide) (Ev.bind t1 (Ev.pos q1 (Ev.pos (by decide) (Ev.bind t2 ?_))))))))
 rw [q2]
 exact Ev.const _
end Go.Proofs.YthiicmanfpmipaaGreatDoor.P
end
section
namespace Go.Proofs.YthiicmanfpmipaaGreatDoor.P
open Go.RowKit Go.Proofs.YthiicmanfpmipaaGreatDoorW.PrintWords Go.Proofs.YthiicmanfpmipaaGreatDoorW.PrintLast Go.Proofs.YthiicmanfpmipaaGreatDoorW.PrintMore
attribute [local go_sem] zcf zci zcu zct zb6 zb2 zch zce
section
open Go.ChangeShapes Go.WideShapes Go.Deep
theorem ints_C {W : World} {a : Addr} {len : Nat} {zs : List Int} (hl : len ≤ zs.length) (hm : len ≤ 9223372036854775807) (hcell : ∀ i, i < zs.length → W.cell? (a.add i) = some (.int .i64 (zs.getD i 0))) : Kd.C (Kd.int .i64) W (some a) (zs.take len).length (zs.take len) := by
 refine Kd.C_of_reads (enc := Value.int .i64) (d := (0 : Int)) (h1 := fun _ => rfl) ⟨rfl, by rw [List.length_take]; omega, fun _ => ⟨a, rfl, fun j hj => ?_⟩⟩
 rw [List.length_take] at hj
 rw [hcell j (by omega), List.getD_eq_getElem?_getD, List.getD_eq_getElem?_getD, List.getElem?_take, if_pos (by omega)]
theorem wf_i64 {x : Int} (h : (Lit.int .i64 x).wf = true) : x < 9223372036854775808 := by
 have h2 : IntKind.i64.min ≤ x ∧ x ≤ 9223372036854775807 := by simpa [Lit.wf] using h
 omega
theorem open_X {H : Type} {enc : TypeId × Value → H} {W : World} {base : Nat} {spare : Nat → Bool} {held : Bool} {r : Reach} {b0 : Nat} {v : Value} {d : DataW H} {p : List MemPlace} (hval : Value.okWide Tryz.prog W r b0 23 v) (h : DataW.Trod enc Tryz.prog W base spare held 23 v d p) : ∃ a b : Int, v = .agg #[.int .i64 a, .int .i64 b] ∧ a < 9223372036854775808 ∧ b < 9223372036854775808 := by
 obtain ⟨va, vb, ya, yb, n, rfl, _, _, fa, fb⟩ := Joins.open_agg2 Tryz.underlying23 (by kernel_rfl) (by kernel_rfl) hval h
 obtain ⟨a, ea, _, wa⟩ := DataW.trod_int Tryz.underlying3 fa
 obtain ⟨b, eb, _, wb⟩ := DataW.trod_int Tryz.underlying3 fb
 simp only [List.cons.injEq, and_true] at ea eb
 exact ⟨a, b, by rw [ea, eb], wf_i64 wa, wf_i64 wb⟩
def Ints (W : World) (v : Value) (l : List Int) : Prop := ∃ A c, v = .slice A l.length c ∧ l.length ≤ c ∧ Kd.C (Kd.int .i64) W A l.length l
theorem open_ints4 {H : Type} {enc : TypeId × Value → H} {W : World} {base fuel : Nat} {held : Bool} {v : Value} {x : DataW H × List MemPlace} (h : DataW.trod enc Tryz.prog W base (fun _ => true) held fuel 24 [v] = some x) : ∃ l, Ints W v l := by
 rcases open_ints Tryz.underlying24 Tryz.underlying3 (by kernel_rfl) h with ⟨hcs, _⟩ | ⟨a, len, cap, zs, hcs, _, hl, hm, hz, _, hcell, hwz⟩
 ·
  simp only [List.cons.injEq, and_true] at hcs
  subst hcs
  exact ⟨[], none, 0, rfl, Nat.le_refl _, ⟨rfl, Nat.zero_le _, fun h => absurd h (Nat.lt_irrefl 0)⟩⟩
 ·
  simp only [List.cons.injEq, and_true] at hcs
  subst hcs
  have hz' : zs.length = cap := hz
  have hmx : maxLen ≤ 9223372036854775807 := by decide +kernel
  have hll : (zs.take len).length = len := by rw [List.length_take]; omega
  exact ⟨zs.take len, some a, cap, by rw [hll], by rw [hll]; exact hl, ints_C (by omega) (by omega) hcell⟩
theorem open_ints_any {H : Type} {enc : TypeId × Value → H} {W : World} {base : Nat} {held : Bool} {r : Reach} {b0 : Nat} {v : Value} {d : DataW H} {p : List MemPlace} (hval : Value.okWide Tryz.prog W r b0 24 v) (h : DataW.Trod enc Tryz.prog W base (fun _ => true) held 24 v d p) : ∃ l, Ints W v l := by
 obtain ⟨a, len, cap, rfl⟩ := okWide_slice Tryz.underlying24 hval
 obtain ⟨fuel, hf⟩ := h
 exact open_ints4 (by simpa [Value.cells] using hf)
end
end Go.Proofs.YthiicmanfpmipaaGreatDoor.P
end
section
namespace Go.Proofs.YthiicmanfpmipaaGreatDoor.P
open Go.RowKit Go.Proofs.YthiicmanfpmipaaGreatDoorW.PrintWords Go.Proofs.YthiicmanfpmipaaGreatDoorW.PrintLast Go.Proofs.YthiicmanfpmipaaGreatDoorW.PrintMore
attribute [local go_sem] zcf zci zcu zct zb6 zb2 zch zce
theorem caps_l1 {x : Rat} (hx : Bd x 1) {l : List (Nat × Nat)} (hl : GoodK l) {ws cs : List Int} (e2 : ws = l.map (fun p => (p.1 : Int))) (e3 : cs = l.map (fun p => (p.2 : Int))) (i : Nat) (hi : i < l.length)
  (hnext : Ev (fun k => zac.l0 k ws cs ((gets l x).map pR) (l.length : Int) ((i + 1 : Nat) : Int)) true) : ∀ (d j : Nat), j + d = l.length →
  Ev (fun k => zac.l1 k ws cs ((gets l x).map pR) (i : Int) (l.length : Int) (i : Int) (l.length : Int) (j : Int)) true
 | 0, j, hj => by
  have h32 := hl.1
  refine Ev.step (fun _ => zac.l1.eq_2 ..) (Ev.neg (by omega) ?_)
  rw [show wrap64 ((i : Int) + 1) = ((i + 1 : Nat) : Int) by unfold wrap64; omega]
  exact hnext
 | d + 1, j, hj => by
  have h32 := hl.1
  have hjl : j < l.length := by omega
  have hpi := hl.2 l[i] (List.getElem_mem hi)
  have hpj := hl.2 l[j] (List.getElem_mem hjl)
  have hgi := bdG hl hx i hi
  have hgj := bdG hl hx j hjl
  have ih := caps_l1 hx hl e2 e3 i hi hnext d (j + 1) (by omega)
  have hn : ((gets l x).map pR).length = l.length := by rw [List.length_map, gets_len]
  have hlw : ws.length = l.length := by rw [e2, List.length_map]
  have hlc : cs.length = l.length := by rw [e3, List.length_map]
  have r1 : rd cs (i : Int) = (l[i].2 : Int) := by rw [e3]; exact rd_snd l i hi
  have r2 : rd ws (j : Int) = (l[j].1 : Int) := by rw [e2]; exact rd_fst l j hjl
  have r3 : rd ws (i : Int) = (l[i].1 : Int) := by rw [e2]; exact rd_fst l i hi
  refine Ev.step (fun _ => zac.l1.eq_2 ..) (Ev.pos (by omega) (Ev.pos (by omega) (Ev.pos (by rw [hn]; omega) (Ev.pos (by rw [hlc]; omega) ?_))))
  rw [r1, rdG l x i hi, rdG l x j hjl, show wrap64 ((j : Int) + 1) = ((j + 1 : Nat) : Int) by unfold wrap64; omega]
  refine Ev.bind (qIntN l[i].2 (by omega)) (Ev.bind (qCmp hgi (bdN (x := l[i].2) (by omega)) (by omega)) ?_)
  by_cases hlt : giv (levR l x) l[i] < (l[i].2 : Rat)
  ·
   refine Ev.pos (cmpR_neg.2 hlt) (Ev.pos (by omega) (Ev.pos (by rw [hlw]; omega) ?_))
   rw [r2, r3]
   refine Ev.bind (qIntN l[j].1 (by omega)) (Ev.bind (qMul hgi (bdN (x := l[j].1) (by omega)) (by omega)) (Ev.pos (by rw [hn]; omega) (Ev.pos (by rw [hlw]; omega) (Ev.bind (qIntN l[i].1 (by omega)) (Ev.bind (qMul hgj (bdN (x := l[i].1) (by omega)) (by omega)) (Ev.bind (qCmp (hgi.mul (bdN (x := l[j].1) (by omega))) (hgj.mul (bdN (x := l[i].1) (by omega))) (by omega)) (Ev.neg (cmpR_ge (caps_law hlt)) ih)))))))
  ·
   exact Ev.neg (cmpR_ge (Rat.not_lt.1 hlt)) ih
theorem caps_l0 {x : Rat} (hx : Bd x 1) {l : List (Nat × Nat)} (hl : GoodK l) {ws cs : List Int} (e2 : ws = l.map (fun p => (p.1 : Int))) (e3 : cs = l.map (fun p => (p.2 : Int))) : ∀ (d i : Nat), i + d = l.length →
  Ev (fun k => zac.l0 k ws cs ((gets l x).map pR) (l.length : Int) (i : Int)) true
 | 0, i, hi => Ev.step (fun _ => zac.l0.eq_2 ..) (Ev.neg (by omega) (Ev.const _))
 | d + 1, i, hi => by
  have h32 := hl.1
  have hil : i < l.length := by omega
  have hpi := hl.2 l[i] (List.getElem_mem hil)
  have hgi := bdG hl hx i hil
  have hn : ((gets l x).map pR).length = l.length := by rw [List.length_map, gets_len]
  have hlc : cs.length = l.length := by rw [e3, List.length_map]
  have r1 : rd cs (i : Int) = (l[i].2 : Int) := by rw [e3]; exact rd_snd l i hil
  have ih := caps_l0 hx hl e2 e3 d (i + 1) (by omega)
  have h1 := caps_l1 hx hl e2 e3 i hil ih l.length 0 (by omega)
  refine Ev.step (fun _ => zac.l0.eq_2 ..) (Ev.pos (by omega) (Ev.pos (by omega) (Ev.pos (by rw [hn]; omega) (Ev.pos (by rw [hlc]; omega) ?_))))
  rw [r1, rdG l x i hil, hn]
  exact Ev.bind (qIntN l[i].2 (by omega)) (Ev.bind (qCmp hgi (bdN (x := l[i].2) (by omega)) (by omega)) (Ev.neg (cmpR_le (giv_le _ _)) h1))
theorem capsPure (a b : Int) (ws cs : List Int) (ha : a < 9223372036854775808) (hb : b < 9223372036854775808) : Ev (fun k => zac.f k a b ws cs) true := by
 have hj : Ev (fun k => zac.j0 k ws cs true a b) true := Ev.step (fun _ => zac.j0.eq_2 ..) (Ev.pos rfl (Ev.bind awakeE (Ev.const _)))
 refine Ev.bind awakeE (Ev.pos rfl ?_)
 by_cases h1 : (ws.length : Int) > 12
 ·
  exact Ev.pos h1 hj
 refine Ev.neg h1 ?_
 by_cases h2 : (cs.length : Int) > 12
 ·
  rw [decide_eq_true h2]
  exact hj
 rw [decide_eq_false h2]
 obtain ⟨x, hx, hB⟩ := bothX a b ha hb
 have hF := pFill hx (by omega) (ws := ws) (cs := cs) (by omega) (by omega)
 refine Ev.step (fun _ => zac.j0.eq_2 ..) (Ev.neg (by simp) (Ev.bind hB (Ev.bind hF ?_)))
 try dsimp only
 by_cases he : fillE x ws cs = 0
 ·
  obtain ⟨e1, hg, hxc, e2, e3⟩ := fillE_good he
  rw [show fillV x ws cs = ((gets (kids ws cs) x).map pR, 0) from if_pos he]
  dsimp only
  have hn : ((gets (kids ws cs) x).map pR).length = (kids ws cs).length := by rw [List.length_map, gets_len]
  have h := caps_l0 hx hg e2 e3 (kids ws cs).length 0 (by omega)
  rw [hn]
  exact Ev.pos rfl (Ev.pos (by rw [kids_len e1]) h)
 ·
  rw [show fillV x ws cs = ([], fillE x ws cs) from if_neg he]
  exact Ev.neg he (Ev.const _)
theorem lFillCaps {H : Type} {enc : TypeId × Value → H} {W : World} {base b0 b1 b2 : Nat} {held : Bool} {d0 d1 d2 : DataW H} {p0 p1 p2 : List MemPlace} (v0 v1 v2 : Value) (k0 : Value.okWide Tryz.prog W .any b0 23 v0) (k1 : Value.okWide Tryz.prog W .any b1 24 v1) (k2 : Value.okWide Tryz.prog W .any b2 24 v2)
  (h0 : DataW.Trod enc Tryz.prog W base (fun _ => true) held 23 v0 d0 p0) (h1 : DataW.Trod enc Tryz.prog W base (fun _ => true) held 24 v1 d1 p1) (h2 : DataW.Trod enc Tryz.prog W base (fun _ => true) held 24 v2 d2 p2) (hG : Glob W) :
  Calls Tryz.prog 3 #[v0, v1, v2] W fun e w' => e = .returned (.bool true) ∧ Below W.heap.size W w' := by
 obtain ⟨a, b, rfl, ha, hb⟩ := open_X k0 h0
 obtain ⟨ws, A1, c1, rfl, hc1, hr1⟩ := open_ints_any k1 h1
 obtain ⟨cs, A2, c2, rfl, hc2, hr2⟩ := open_ints_any k2 h2
 obtain ⟨k, hk⟩ := (capsPure a b ws cs ha hb).get
 exact zac.calls k a b A1 c1 ws A2 c2 cs true W hr1 hc1 hr2 hc2 hG hk
end Go.Proofs.YthiicmanfpmipaaGreatDoor.P
end
