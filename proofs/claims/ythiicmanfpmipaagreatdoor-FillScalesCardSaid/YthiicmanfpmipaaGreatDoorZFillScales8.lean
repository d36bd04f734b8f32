-- Written by a program of this session (wip/tools/shake.py) out of its own texts and of the kit's printed ones; not trusted: Lean checks it.
import Derived.Test.YthiicmanfpmipaaGreatDoorZFillScales7
set_option maxHeartbeats 8000000
set_option maxRecDepth 100000
set_option linter.unusedVariables false
set_option linter.unusedSimpArgs false
section
namespace Go.Proofs.YthiicmanfpmipaaGreatDoor.P
open Go.RowKit Go.Proofs.YthiicmanfpmipaaGreatDoorW.PrintWords Go.Proofs.YthiicmanfpmipaaGreatDoorW.PrintLast Go.Proofs.YthiicmanfpmipaaGreatDoorW.PrintMore
attribute [local go_sem] zci zcj zcs zcr zb9 zca zcg zch
attribute [local go_sem] Oper.semAt_some
theorem sorted_ok (Bn : Nat) (A : Option Addr) (cap : Nat) (m : List (Nat × Nat)) (hm : GoodK m) (w : World) (hlt : ∀ ad, A = some ad → m ≠ [] → ad.block < w.heap.size) (hBn : Bn < w.heap.size) (hc : w.cell? ⟨Bn, 0, none⟩ = some (.slice A m.length cap)) (hK : KidsC w A m) :
  Calls Tryz.prog 74 #[.func (.func 125) #[] #[.pointer (some ⟨Bn, 0, none⟩)], .func (.func 76) #[] #[]] w fun e W' => ∃ (s : List (Nat × Nat)) (A' : Option Addr) (c' : Nat), e = .returned (.slice A' s.length c') ∧ s.Perm m ∧ s.Pairwise (fun p q => (p.2 : Rat) / (p.1 : Rat) ≤ (q.2 : Rat) / (q.1 : Rat)) ∧ KidsC W' A' s ∧ (∀ ad, A' = some ad → w.heap.size ≤ ad.block) ∧ Below w.heap.size w W' := by
 have HCo := Aside0.mk (collect_ok Bn A cap m (by have := hm.1; omega) w hlt hBn hc hK)
 have HM := Aside0.mk hm
 clear hc hK hlt hBn hm
 go_enter Tryz.func74, Tryz.ntmps74
 go_wp2_with fail
 refine HCo.out.mono ?_
 rintro e w2 ⟨⟨v, rfl, hrow⟩, hb⟩
 have HB := Aside0.mk hb
 have HR := Aside0.mk hrow
 rcases hrow.2 with ⟨rfl, h0⟩ | ⟨g, cap', cur, rfl, _⟩
 ·
  have hm0 : m = [] := List.eq_nil_of_length_eq_zero h0
  subst hm0
  clear hrow hb h0
  have HS := Aside0.mk (AnyF.slices_SortFunc_none (P := Tryz.prog) (ρ := sortC_ren) sortC none 0 (.func (.func 76) #[] #[]) w2)
  go_wp2_with fail
  refine HS.out.mono ?_
  rintro e w3 ⟨rfl, rfl⟩
  go_wp2_with fail
  go_ret
  exact ⟨[], none, 0, rfl, List.Perm.refl _, List.Pairwise.nil, fun i hi => absurd hi (by simp), (fun ad e => by cases e), HB.out⟩
 ·
  clear hrow
  have HS := Aside0.mk (sort_ok g cap' m HM.out w2 w.heap.size hb.size HR.out)
  clear hb
  go_wp2_with fail
  refine HS.out.mono ?_
  rintro e w3 ⟨rfl, s, hp, hso, hk, hb3⟩
  have HP := Aside0.mk hp
  have HSo := Aside0.mk hso
  have HK := Aside0.mk hk
  have HB3 := Aside0.mk (HB.out.trans hb3)
  clear hp hso hk hb3
  go_wp2_with fail
  go_ret
  refine ⟨s, some ⟨g, 0, none⟩, cap', ?_, HP.out, HSo.out, HK.out, fun ad e => by cases e; exact (HR.out.lt g rfl).1, HB3.out⟩
  rw [HP.out.length_eq]
  rfl
def Kp3 (a b c : Nat) (W W' : World) : Prop := Below 0 W W' ∧ ∀ k, k < W.heap.size → k ≠ a → k ≠ b → k ≠ c → W'.heap[k]? = W.heap[k]?
theorem Kp3.refl (a b c : Nat) (W : World) : Kp3 a b c W W := ⟨Below.refl _ _, fun _ _ _ _ _ => rfl⟩
theorem Kp3.trans {a b c : Nat} {W W1 W2 : World} (h : Kp3 a b c W W1) (h' : Kp3 a b c W1 W2) : Kp3 a b c W W2 :=
 ⟨h.1.trans h'.1, fun k hk ha hb hc => (h'.2 k (Nat.lt_of_lt_of_le hk h.1.size) ha hb hc).trans (h.2 k hk ha hb hc)⟩
theorem Kp3.of_below {a b c : Nat} {W W' : World} (hb : Below W.heap.size W W') : Kp3 a b c W W' := ⟨hb.mono (Nat.zero_le _), fun k hk _ _ _ => hb.block k hk⟩
theorem Kp3.set {a b c : Nat} {W W' : World} (h : Kp3 a b c W W') (p : Addr) (hp : p.block = a ∨ p.block = b ∨ p.block = c ∨ W.heap.size ≤ p.block) (u : Value) : Kp3 a b c W (W'.setCell p u) :=
 ⟨h.1.setCell (Nat.zero_le _) u, fun k hk ha hb hc => (Below.heap_setCell W' p u k (by omega)).trans (h.2 k hk ha hb hc)⟩
theorem Kp3.below {a b c n : Nat} {w W W' : World} (h : Kp3 a b c W W') (hB : Below n w W) (hn : n ≤ W.heap.size) (ha : n ≤ a) (hb : n ≤ b) (hc : n ≤ c) : Below n w W' :=
 hB.trans ⟨h.1.os, h.1.tape, h.1.output, h.1.size, fun k hk => h.2 k (by omega) (by omega) (by omega) (by omega)⟩
theorem RV.kp3 {w w' : World} {P : Nat → Prop} {A A' : Option Addr} {c c' : Nat} {l l' : List Int} {x y z : Nat} (h : RV w P A c l A' c' l') (hk : Kp3 x y z w w') (hP : ∀ k, P k → k ≠ x ∧ k ≠ y ∧ k ≠ z) : RV w' P A c l A' c' l' := by
 obtain ⟨⟨B, d, e, hl, hF⟩, ⟨B', d', e', hl', hF'⟩⟩ := h
 exact ⟨⟨B, d, e, hl, Kd.F_step hF fun k hp hlt => hk.2 k hlt (hP k hp).1 (hP k hp).2.1 (hP k hp).2.2⟩, ⟨B', d', e', hl', Kd.F_step hF' fun k hp hlt => hk.2 k hlt (hP k hp).1 (hP k hp).2.1 (hP k hp).2.2⟩⟩
theorem KidsC.kp3 {w w' : World} {A : Option Addr} {m : List (Nat × Nat)} {x y z : Nat} (h : KidsC w A m) (hk : Kp3 x y z w w') (hA : ∀ ad, A = some ad → ad.block ≠ x ∧ ad.block ≠ y ∧ ad.block ≠ z) : KidsC w' A m := fun i hi => by
 obtain ⟨ad, e, h1, h2⟩ := h i hi
 obtain ⟨q1, q2, q3⟩ := hA ad e
 have hb : (ad.add (i * 2)).block = ad.block := add_block' ad _
 have hlt := block_lt_of_cell h1
 have hh := hk.2 (ad.add (i * 2)).block hlt (by rw [hb]; exact q1) (by rw [hb]; exact q2) (by rw [hb]; exact q3)
 refine ⟨ad, e, ?_, ?_⟩
 ·
  rw [← h1]
  unfold World.cell?
  rw [hh]
 ·
  rw [← h2]
  unfold World.cell?
  rw [hh]
theorem foot_C {w : World} {A : Option Addr} {l : List Int} (h : Kd.C (Kd.int .u64) w A l.length l) : Kd.F (Kd.int .u64) w (fun k => k < w.heap.size) A l.length l := fun W' hW' => ⟨h.1, h.2.1, fun hn => by
 obtain ⟨ad, e, hc⟩ := h.2.2 hn
 refine ⟨ad, e, fun j p hj => ?_⟩
 obtain ⟨c, h1, h2, h3⟩ := hc j p hj
 refine ⟨c, h1, h2, fun i u hu => ?_⟩
 have h4 := h3 i u hu
 have hlt := block_lt_of_cell h4
 rw [← h4]
 unfold World.cell?
 rw [hW' _ hlt hlt]⟩
theorem Rt.rv {w : World} {A A' : Option Addr} {c c' : Nat} {l l' : List Int} (h : Rt w A c l A' c' l') : RV w (fun k => k < w.heap.size) A c l A' c' l' := ⟨⟨A, c, rfl, h.1, foot_C h.2.1⟩, ⟨A', c', rfl, h.2.2.1, foot_C h.2.2.2⟩⟩
theorem bdFul (p : Nat × Nat) (hp1 : p.1 < 1000000) (hp2 : p.2 < 1000000) (h : 1 ≤ p.1) : Bd ((p.2 : Rat) / (p.1 : Rat)) 1 := by
 have hd := Bd.mk (x := p.2) (y := p.1) (m := 1) (by omega) (by omega) (by omega)
 rw [Rat.mkRat_eq_div] at hd
 exact hd
theorem rN_nil {r : Rat} (h : 0 ≤ r) : (rN r).length = 0 ↔ r = 0 := by
 unfold rN
 constructor
 ·
  intro h1
  have h2 := congrArg (val 18446744073709551616) (List.eq_nil_of_length_eq_zero h1)
  rw [zcv (by decide)] at h2
  have h3 : r.num.toNat = 0 := h2
  have h4 := Rat.num_nonneg.2 h
  exact Rat.num_eq_zero.1 (by omega)
 ·
  rintro rfl
  show (dig 18446744073709551616 0).length = 0
  rw [dig]
  rfl
theorem wsum_app : ∀ a b : List (Nat × Nat), wsum (a ++ b) = wsum a + wsum b
 | [], b => (Rat.zero_add _).symm
 | p :: a, b => by
  have ih := wsum_app a b
  show (p.1 : Rat) + wsum (a ++ b) = (p.1 : Rat) + wsum a + wsum b
  rw [ih, Rat.add_assoc]
theorem kids_lt {w : World} {A : Option Addr} {m : List (Nat × Nat)} (h : KidsC w A m) : ∀ ad, A = some ad → m ≠ [] → ad.block < w.heap.size := fun ad e hm => by
 obtain ⟨ad', e', h1, _⟩ := h 0 (List.length_pos_iff.2 hm)
 rw [e] at e'
 obtain rfl := Option.some.inj e'
 have := block_lt_of_cell h1
 rw [add_block'] at this
 exact this
def lv12T : Bool × List (List Nat × List Nat) := (true, [([], []), ([], []), ([1], [1]), ([0, 2, 2], [0, 2]), ([3], [3]), ([4], [4]), ([4], [4]), ([], []), ([7, 5, 3, 0, 1, 2, 3, 4, 5, 7], [5, 7]), ([6, 8, 0, 1, 2, 3, 4, 5, 6, 7, 8], [6])])
def lv12B : List Nat := [0, 0, 2, 7, 15, 31, 31, 0, 191, 511]
theorem lv12tab : rtab .any (opsOf Tryz.f39 12) = lv12T := by kernel_rfl
theorem lv12bits : waitsOk lv12T.2 lv12B = true := by kernel_rfl
def lv13T : Bool × List (List Nat × List Nat) := (true, [([], []), ([0], [0]), ([1], [1]), ([], []), ([3], [3]), ([4, 2], [4]), ([2, 5, 5], [2, 5]), ([6], [6]), ([7], [7]), ([7], [7]), ([], []), ([10, 8, 6, 0, 1, 2, 3, 4, 5, 6, 7, 8, 10], [8, 10]), ([9, 11, 0, 1, 2, 3, 4, 5, 6, 7, 8, 9, 10, 11], [9])])
def lv13B : List Nat := [0, 1, 3, 0, 8, 31, 63, 127, 255, 255, 0, 1535, 4095]
theorem lv13tab : rtab .any (opsOf Tryz.f39 13) = lv13T := by kernel_rfl
theorem lv13bits : waitsOk lv13T.2 lv13B = true := by kernel_rfl
def lv16T : Bool × List (List Nat × List Nat) := (true, [([], []), ([], []), ([1], [1]), ([2], [2]), ([0, 3, 3], [0, 3]), ([4], [4]), ([5], [5]), ([5], [5]), ([6, 4, 0, 1, 2, 3, 4, 5, 6], [6])])
def lv16B : List Nat := [0, 0, 2, 6, 15, 31, 63, 63, 127]
theorem lv16tab : rtab .any (opsOf Tryz.f39 16) = lv16T := by kernel_rfl
theorem lv16bits : waitsOk lv16T.2 lv16B = true := by kernel_rfl
theorem level_ok (A0_0 : Option Addr) (c0_0 : Nat) (l0_0 : List Int) (A0_1 : Option Addr) (c0_1 : Nat) (l0_1 : List Int) (A1 : Option Addr) (c1 : Nat) (l1 : List S90) (r1 r2 : List Int) (w : World) (hr0_0 : Kd.C (Kd.int .u64) w A0_0 l0_0.length l0_0) (hc0_0 : l0_0.length ≤ c0_0) (hr0_1 : Kd.C (Kd.int .u64) w A0_1 l0_1.length l0_1) (hc0_1 : l0_1.length ≤ c0_1) (hr1 : Kd.C k90 w A1 l1.length l1) (h : lvF l0_0 l0_1 l1 = some (r1, r2)) :
  Calls Tryz.prog 39 #[.agg #[.slice A0_0 l0_0.length c0_0, .slice A0_1 l0_1.length c0_1], .slice A1 l1.length c1] w fun e w' => ∃ v0_ v1_ : Value, e = .returned (.agg #[v0_, v1_]) ∧ Kd.V (Kd.int .u64) 82 w' w.heap.size (fun k_ => (w.heap.size ≤ k_)) v0_ r1 ∧ Kd.V (Kd.int .u64) 82 w' w.heap.size (fun k_ => (w.heap.size ≤ k_)) v1_ r2 ∧ Below w.heap.size w w' := by
 obtain ⟨x, m, hx, rfl, rfl, rfl, hm, hxc, hr⟩ := lvF_of h
 have hr1' : r1 = rN (levR m x) := congrArg Prod.fst hr
 have hr2' : r2 = rD (levR m x) := congrArg Prod.snd hr
 subst hr1'
 subst hr2'
 clear h hr
 rw [List.length_map] at hr1 ⊢
 have HKm := Aside0.mk (KidsC.of hr1)
 have HRt : Aside0 (Rt w A0_0 c0_0 (rN x) A0_1 c0_1 (rD x)) := ⟨hc0_0, hr0_0, hc0_1, hr0_1⟩
 have HX := Aside0.mk hx
 have HM := Aside0.mk hm
 have HXC := Aside0.mk hxc
 clear hr0_0 hc0_0 hr0_1 hc0_1 hr1 hx hm hxc
 obtain ⟨na, hna⟩ : ∃ n, (rN x).length = n := ⟨_, rfl⟩
 obtain ⟨nb, hnb⟩ : ∃ n, (rD x).length = n := ⟨_, rfl⟩
 rw [hna, hnb]
 have HNA := Aside0.mk hna
 have HNB := Aside0.mk hnb
 clear hna hnb
 obtain ⟨nm, hnm⟩ : ∃ n, m.length = n := ⟨_, rfl⟩
 rw [hnm]
 have HNM := Aside0.mk hnm
 clear hnm
 go_enter Tryz.func39, Tryz.ntmps39
 go_wp2_with fail
 have hbk1 := zai (zdl w (.cells #[.slice A0_0 na c0_0, .slice A0_1 nb c0_1] 29)) (.cells #[.slice none 0 0, .slice none 0 0] 29)
 have hbk2 := zdl (w.alloc (.cells #[.slice A0_0 na c0_0, .slice A0_1 nb c0_1] 29)) (.cells #[.slice none 0 0, .slice none 0 0] 29)
 rw [show (w.alloc (.cells #[.slice A0_0 na c0_0, .slice A0_1 nb c0_1] 29)).heap.size = w.heap.size + 1 by simp] at hbk2
 have hs1 : ((w.alloc (.cells #[.slice A0_0 na c0_0, .slice A0_1 nb c0_1] 29)).alloc (.cells #[.slice none 0 0, .slice none 0 0] 29)).heap.size = w.heap.size + 2 := by simp
 have hB1 := za7 (za7 (Below.refl w.heap.size w) (.cells #[.slice A0_0 na c0_0, .slice A0_1 nb c0_1] 29)) (.cells #[.slice none 0 0, .slice none 0 0] 29)
 generalize (w.alloc (.cells #[.slice A0_0 na c0_0, .slice A0_1 nb c0_1] 29)).alloc (.cells #[.slice none 0 0, .slice none 0 0] 29) = w1 at hbk1 hbk2 hs1 hB1 ⊢
 have hK1 := HKm.out.keep hB1
 have hlt1 := kids_lt hK1
 refine (vals_make A1 nm c1 w1).mono ?_
 rintro e w2 ⟨rfl, rfl⟩
 have hSo := sorted_ok w1.heap.size A1 c1 m HM.out (w1.alloc (.cells #[.slice A1 nm c1] 85)) (fun ad e h => by have := hlt1 ad e h; simp; omega) (by simp) (by rw [HNM.out]; exact (zac (zdl w1 _) 0).trans rfl) (hK1.keep (za7 (Below.refl _ _) _))
 have HSo := Aside0.mk hSo
 have HB1 := Aside0.mk hB1
 have HBK1 := Aside0.mk (zai hbk1 (.cells #[.slice A1 nm c1] 85))
 have HBK2 := Aside0.mk (zai hbk2 (.cells #[.slice A1 nm c1] 85))
 have HS1 := Aside0.mk hs1
 clear hSo hB1 hbk1 hbk2 hs1 hK1 hlt1
 go_wp2_with fail
 refine HSo.out.mono ?_
 rintro e w3 ⟨s, A2, c2, rfl, hp, hso, hk3, hA2, hb3⟩
 have HA2 : Aside0 (∀ ad, A2 = some ad → w.heap.size + 2 ≤ ad.block) := ⟨fun ad e => by have := hA2 ad e; simp [HS1.out] at this; omega⟩
 have HP := Aside0.mk hp
 have HPW := Aside0.mk hso
 have HK3 := Aside0.mk hk3
 have HB3 := Aside0.mk (zab (za7 HB1.out (.cells #[.slice A1 nm c1] 85)) hb3)
 have hsz2 : (w1.alloc (.cells #[.slice A1 nm c1] 85)).heap.size = w.heap.size + 3 := by simp [HS1.out]
 have HBX := Aside0.mk ((hb3.block _ (zaw HBK1.out)).trans HBK1.out)
 have HBR := Aside0.mk ((hb3.block _ (zaw HBK2.out)).trans HBK2.out)
 have HS3 : Aside0 (w.heap.size + 3 ≤ w3.heap.size) := ⟨by have := hb3.size; omega⟩
 clear hp hso hk3 hb3 hsz2 HSo hA2
 obtain ⟨ns, hns⟩ : ∃ n, s.length = n := ⟨_, rfl⟩
 rw [hns]
 have HNS := Aside0.mk hns
 clear hns
 go_wp2_with fail
 have hgs : ∀ p ∈ s, 1 ≤ p.1 ∧ p.1 ≤ 10000 ∧ p.2 ≤ 64 := fun p hp => HM.out.2 p (HP.out.mem_iff.1 hp)
 have HGS := Aside0.mk hgs
 have HN32 : Aside0 (ns ≤ 32) := ⟨by rw [← HNS.out, HP.out.length_eq]; exact HM.out.1⟩
 clear hgs
 go_loopg [5, 20] ns (fun gk v5 v20 w' => ∃ i o : Nat, v5 = .int .i64 (o : Int) ∧ v20 = .int .i64 (i : Int) ∧ Aside0 (i + gk = ns) ∧ Aside0 (o ≤ 10000 * i ∧ wsum (s.take i) = (o : Rat)) ∧ Aside0 (Below w3.heap.size w3 w'))
 case atStart => exact ⟨0, 0, rfl, rfl, ⟨by omega⟩, ⟨by omega, rfl⟩, ⟨Below.refl _ _⟩⟩
 case round =>
  obtain ⟨i, o, rfl, rfl, HI, HO, HBW⟩ := hrel
  cases gk with
  | succ g1 =>
   have hil : i < ns := by have := HI.out; omega
   have hi : i < s.length := by rw [HNS.out]; exact hil
   have d1 : decide ((i : Int) < (ns : Int)) = true := decide_eq_true (by omega)
   have d3 : 0 ≤ (i : Int) ∧ (i : Int) < (ns : Int) := by omega
   obtain ⟨ad, rfl, q1, q2⟩ := (HK3.out.keep HBW.out) i hi
   obtain ⟨p, hp⟩ : ∃ p, s[i] = p := ⟨_, rfl⟩
   rw [hp] at q1 q2
   have htk : s.take (i + 1) = s.take i ++ [p] := by rw [List.take_succ_eq_append_getElem hi, hp]
   have hpg := HGS.out p (by rw [← hp]; exact List.getElem_mem hi)
   have e1 : wrap64 ((i : Int) + 1) = ((i + 1 : Nat) : Int) := by have := HN32.out; unfold wrap64; omega
   have e2 : wrap64 ((o : Int) + (p.1 : Int)) = ((o + p.1 : Nat) : Int) := by have := HN32.out; have := HO.out.1; unfold wrap64; omega
   have e3 : o + p.1 ≤ 10000 * (i + 1) ∧ wsum (s.take (i + 1)) = ((o + p.1 : Nat) : Rat) := by
    refine ⟨by have := HO.out.1; omega, ?_⟩
    rw [htk, wsum_app, HO.out.2, Rat.natCast_add]
    exact congrArg _ (Rat.add_zero _)
   have E1 := Aside0.mk e1
   have E2 := Aside0.mk e2
   have E3 := Aside0.mk e3
   have HB' := Aside0.mk (za7 HBW.out (.cells #[.int .i64 (p.1 : Int), .int .i64 (p.2 : Int)] 90))
   clear e1 e2 e3 htk hp hpg hi
   go_wp2_with fail
   go_roundg g1
   case rel => exact ⟨i + 1, o + p.1, by rw [E2.out], by rw [E1.out], ⟨by have := HI.out; omega⟩, E3, HB'⟩
   case measure => omega
  | zero =>
   obtain rfl : ns = i := by have := HI.out; omega
   have d1 : decide ((ns : Int) < (ns : Int)) = false := decide_eq_false (by omega)
   have hO := HO.out
   rw [List.take_of_length_le (by rw [HNS.out]; exact Nat.le_refl _)] at hO
   have HOW := Aside0.mk hO.2
   have HO3 : Aside0 (o ≤ 320000) := ⟨by have := hO.1; have := HN32.out; omega⟩
   clear hO HI HO
   go_wp2_with fail
   clear d1
   refine (t_Int 0 (by omega) wr).mono ?_
   rintro e w5 ⟨Z0, f0, Z1, f1, rfl, hZ, hb5⟩
   have HBV := Aside0.mk (zab HBW.out hb5)
   have HZ := Aside0.mk hZ
   clear hZ hb5
   go_wp2_with fail
   have hRz := HZ.out.old (za7 (Below.refl w5.heap.size w5) (.cells #[.slice Z0 (rN ((0 : Nat) : Rat)).length f0, .slice Z1 (rD ((0 : Nat) : Rat)).length f1] 29))
   have hB6 := za7 (zab HB3.out HBV.out) (.cells #[.slice Z0 (rN ((0 : Nat) : Rat)).length f0, .slice Z1 (rD ((0 : Nat) : Rat)).length f1] 29)
   have hb36 := za7 HBV.out (.cells #[.slice Z0 (rN ((0 : Nat) : Rat)).length f0, .slice Z1 (rD ((0 : Nat) : Rat)).length f1] 29)
   have hba := zdl w5 (.cells #[.slice Z0 (rN ((0 : Nat) : Rat)).length f0, .slice Z1 (rD ((0 : Nat) : Rat)).length f1] 29)
   have hs6 : (w5.alloc (.cells #[.slice Z0 (rN ((0 : Nat) : Rat)).length f0, .slice Z1 (rD ((0 : Nat) : Rat)).length f1] 29)).heap.size = w5.heap.size + 1 := by simp
   have hsr : w3.heap.size ≤ wr.heap.size := HBW.out.size
   have hs5 : w3.heap.size ≤ w5.heap.size := HBV.out.size
   have hl3 := HS3.out
   change Aside0 (RV w5 (fun k => wr.heap.size ≤ k) Z0 f0 (rN ((0 : Nat) : Rat)) Z1 f1 (rD ((0 : Nat) : Rat))) at HZ
   generalize hb8 : w5.heap.size = b8 at hRz hba hs6 hs5 ⊢
   have HBA6 := Aside0.mk hba
   have HB6 := Aside0.mk hB6
   have HB36 := Aside0.mk hb36
   generalize w5.alloc (.cells #[.slice Z0 (rN ((0 : Nat) : Rat)).length f0, .slice Z1 (rD ((0 : Nat) : Rat)).length f1] 29) = w6 at hRz HBA6 HB6 HB36 hs6 ⊢
   have HRZ6 : Aside0 (RV w6 (fun k => w.heap.size ≤ k ∧ k ≠ w.heap.size ∧ k ≠ w.heap.size + 1 ∧ k ≠ b8) Z0 f0 (rN ((0 : Nat) : Rat)) Z1 f1 (rD ((0 : Nat) : Rat))) := ⟨hRz.mono fun k hk => by omega⟩
   have HRX6 : Aside0 (RV w6 (fun k => k ≠ w.heap.size ∧ k ≠ w.heap.size + 1 ∧ k ≠ b8) A0_0 c0_0 (rN x) A0_1 c0_1 (rD x)) := ⟨(HRt.out.rv.old HB6.out).mono fun k hk => by omega⟩
   have HBX6 := Aside0.mk ((HB36.out.block _ (zaw HBX.out)).trans HBX.out)
   have HBR6 := Aside0.mk ((HB36.out.block _ (zaw HBR.out)).trans HBR.out)
   have HK6 := Aside0.mk (HK3.out.keep HB36.out)
   have hA2b : ∀ ad, A2 = some ad → s ≠ [] → ad.block ≠ w.heap.size ∧ ad.block ≠ w.heap.size + 1 ∧ ad.block ≠ b8 := fun ad e hne => by
    have h1 := HA2.out ad e
    have h2 := kids_lt HK3.out ad e hne
    omega
   have HAB := Aside0.mk hA2b
   have HN8 : Aside0 (w.heap.size + 2 ≤ b8 ∧ b8 < w6.heap.size) := ⟨by omega⟩
   have hcs : csum s = csum m := csum_perm HP.out
   have hlv := lev_one m s x HP.out HPW.out (fun p hp => (HM.out.2 p hp).1) HX.out.1 HXC.out hcs
   have HLV := Aside0.mk hlv
   clear hRz hB6 hb36 hba hs6 hsr hs5 hl3 HZ HBV HBW hA2b hcs hlv hb8
   go_loopg [5, 32] ns (fun gk v5 v32 w' => ∃ (i o : Nat) (y a : Rat) (Y0 : Option Addr) (e0 : Nat) (Y1 : Option Addr) (e1 : Nat) (Z0 : Option Addr) (f0 : Nat) (Z1 : Option Addr) (f1 : Nat), v5 = .int .i64 (o : Int) ∧ v32 = .int .i64 (i : Int) ∧ Aside0 (i + gk = ns) ∧ Aside0 (Kp3 w.heap.size (w.heap.size + 1) b8 w6 w') ∧ Aside0 (w'.heap[w.heap.size]? = some (.cells #[.slice Y0 (rN y).length e0, .slice Y1 (rD y).length e1] 29 (0, 0))) ∧ Aside0 (w'.heap[w.heap.size + 1]? = some (.cells #[.slice none 0 0, .slice none 0 0] 29 (0, 0))) ∧ Aside0 (w'.heap[b8]? = some (.cells #[.slice Z0 (rN a).length f0, .slice Z1 (rD a).length f1] 29 (0, 0))) ∧ Aside0 (RV w' (fun k => k ≠ w.heap.size ∧ k ≠ w.heap.size + 1 ∧ k ≠ b8) Y0 e0 (rN y) Y1 e1 (rD y)) ∧ Aside0 (RV w' (fun k => w.heap.size ≤ k ∧ k ≠ w.heap.size ∧ k ≠ w.heap.size + 1 ∧ k ≠ b8) Z0 f0 (rN a) Z1 f1 (rD a)) ∧ Aside0 (Bd y (3000 + i) ∧ Bd a 1) ∧ Aside0 (o ≤ 320000 ∧ (o : Rat) = wsum (s.drop i) ∧ levP y (o : Rat) a (s.drop i) = levR m x))
   case atStart => exact ⟨0, o, x, ((0 : Nat) : Rat), A0_0, c0_0, A0_1, c0_1, Z0, f0, Z1, f1, rfl, rfl, ⟨by omega⟩, ⟨Kp3.refl _ _ _ _⟩, ⟨by rw [HNA.out, HNB.out]; exact HBX6.out⟩, HBR6, HBA6, HRX6, HRZ6, ⟨HX.out, bdN (x := 0) (by omega)⟩, ⟨HO3.out, HOW.out.symm, by rw [← HOW.out]; exact HLV.out⟩⟩
   case round =>
    obtain ⟨i, o, y, a, Y0, e0, Y1, e1, Z0, f0, Z1, f1, rfl, rfl, HI, HKP, HBX, HBR, HBA, HRY, HRZ, HBD, HLV⟩ := hrel
    cases gk with
    | zero =>
     obtain rfl : ns = i := by have := HI.out; omega
     have d1 : decide ((ns : Int) < (ns : Int)) = false := decide_eq_false (by omega)
     have hL := HLV.out.2.2
     rw [List.drop_of_length_le (by rw [HNS.out]; exact Nat.le_refl _)] at hL
     have HA : Aside0 (a = levR m x) := ⟨hL⟩
     clear hL
     have q2 : wr.cell? ⟨b8, 0, none⟩ = some (.slice Z0 (rN a).length f0) := (zac HBA.out 0).trans rfl
     have q3 : wr.cell? ⟨b8, 1, none⟩ = some (.slice Z1 (rD a).length f1) := (zac HBA.out 1).trans rfl
     have q4 : wr.cell? ⟨w.heap.size + 1, 0, none⟩ = some (.slice none 0 0) := (zac HBR.out 0).trans rfl
     have q5 : wr.cell? ⟨w.heap.size + 1, 1, none⟩ = some (.slice none 0 0) := (zac HBR.out 1).trans rfl
     have q6 := zaj HBR.out 0
     have q7 := zaj HBR.out 1
     have HSF := Aside0.mk ((HRZ.out.far (p := ⟨w.heap.size + 1, 0, none⟩) (fun k hk => hk.2.2.1) (.slice Z0 (rN a).length f0)).far (p := ⟨w.heap.size + 1, 1, none⟩) (fun k hk => hk.2.2.1) (.slice Z1 (rD a).length f1))
     have HBF := Aside0.mk (zbb (zbb HBR.out 0 (.slice Z0 (rN a).length f0) rfl) 1 (.slice Z1 (rD a).length f1) rfl)
     have HKF := Aside0.mk ((HKP.out.set ⟨w.heap.size + 1, 0, none⟩ (.inr (.inl rfl)) (.slice Z0 (rN a).length f0)).set ⟨w.heap.size + 1, 1, none⟩ (.inr (.inl rfl)) (.slice Z1 (rD a).length f1))
     go_wp2_with fail
     refine bodyPost_ret (results_cell_row rfl _ _ (w.heap.size + 1) 29 _ (0, 0) _ rfl HBF.out Tryz.underlying29 rfl (by kernel_rfl)) rfl ?_
     refine ⟨_, _, rfl, ?_, ?_, HKF.out.below HB6.out (by have := HB6.out.size; omega) (Nat.le_refl _) (by omega) (by have := HN8.out; omega)⟩
     ·
      rw [← HA.out]
      exact (HSF.out.mono (Q := fun k => w.heap.size ≤ k) (fun k hk => hk.1)).1
     ·
      rw [← HA.out]
      exact (HSF.out.mono (Q := fun k => w.heap.size ≤ k) (fun k hk => hk.1)).2
    | succ g1 =>
     have hil : i < ns := by have := HI.out; omega
     have hi : i < s.length := by rw [HNS.out]; exact hil
     have d1 : decide ((i : Int) < (ns : Int)) = true := decide_eq_true (by omega)
     have d3 : 0 ≤ (i : Int) ∧ (i : Int) < (ns : Int) := by omega
     have HAB2 : Aside0 (∀ ad, A2 = some ad → ad.block ≠ w.heap.size ∧ ad.block ≠ w.heap.size + 1 ∧ ad.block ≠ b8) := ⟨fun ad e => HAB.out ad e (by rintro rfl; simp at hi)⟩
     obtain ⟨ad, hAd, q1, q2⟩ := (HK6.out.kp3 HKP.out HAB2.out) i hi
     subst hAd
     obtain ⟨p, hp⟩ : ∃ p, s[i] = p := ⟨_, rfl⟩
     rw [hp] at q1 q2
     have hdr : s.drop i = p :: s.drop (i + 1) := by rw [List.drop_eq_getElem_cons hi, hp]
     have hpg := HGS.out p (by rw [← hp]; exact List.getElem_mem hi)
     have HPG := Aside0.mk hpg
     have HDR := Aside0.mk hdr
     have HIB : Aside0 (i < 32) := ⟨by have := HN32.out; omega⟩
     have hlv := HLV.out
     rw [hdr] at hlv
     have HLV2 := Aside0.mk hlv
     have hwo : p.1 ≤ o := by
      have h1 := hlv.2.1
      have h2 : (p.1 : Rat) ≤ (o : Rat) := by
       rw [h1]
       show (p.1 : Rat) ≤ (p.1 : Rat) + wsum (s.drop (i + 1))
       have := wsum_nonneg (s.drop (i + 1))
       grind
      exact Rat.natCast_le_natCast.1 h2
     have HWO := Aside0.mk hwo
     have HPO : Aside0 ((0 : Rat) < (o : Rat)) := ⟨Rat.natCast_pos.2 (by omega)⟩
     have HPP : Aside0 ((0 : Rat) < (p.1 : Rat)) := ⟨Rat.natCast_pos.2 (by omega)⟩
     have ho3 : o ≤ 320000 := hlv.1
     have HO32 := Aside0.mk ho3
     have HBO : Aside0 (Bd ((o : Nat) : Rat) 1) := ⟨bdN (by omega)⟩
     have HBY := Aside0.mk HBD.out.1
     have HBA1 := Aside0.mk HBD.out.2
     have hb7 := za7 (Below.refl wr.heap.size wr) (.cells #[.int .i64 (p.1 : Int), .int .i64 (p.2 : Int)] 90)
     have hbc := zdl wr (.cells #[.int .i64 (p.1 : Int), .int .i64 (p.2 : Int)] 90)
     have hs7 : (wr.alloc (.cells #[.int .i64 (p.1 : Int), .int .i64 (p.2 : Int)] 90)).heap.size = wr.heap.size + 1 := by simp
     clear hp hdr hpg hlv hwo ho3 hi HBD HLV
     go_wp2_with fail
     clear q1 q2 d1 d3
     generalize hbcn : wr.heap.size = bc at hbc hs7 ⊢
     have HBX7 := Aside0.mk ((hb7.block _ (zaw HBX.out)).trans HBX.out)
     have HBR7 := Aside0.mk ((hb7.block _ (zaw HBR.out)).trans HBR.out)
     have HBA7 := Aside0.mk ((hb7.block _ (zaw HBA.out)).trans HBA.out)
     have HBC7 := Aside0.mk hbc
     have HKP7 := Aside0.mk (HKP.out.trans (Kp3.of_below hb7))
     have HRY7v := Aside0.mk (HRY.out.kp3 (Kp3.of_below hb7) (fun k hk => hk))
     have HRZ7v := Aside0.mk (HRZ.out.kp3 (Kp3.of_below hb7) (fun k hk => hk.2))
     have hsz : w6.heap.size ≤ wr.heap.size := HKP.out.1.size
     have HN7 : Aside0 (w.heap.size + 2 ≤ b8 ∧ b8 < bc ∧ bc + 1 = (wr.alloc (.cells #[.int .i64 (p.1 : Int), .int .i64 (p.2 : Int)] 90)).heap.size) := ⟨by have := HN8.out; omega⟩
     generalize wr.alloc (.cells #[.int .i64 (p.1 : Int), .int .i64 (p.2 : Int)] 90) = w7 at HBX7 HBR7 HBA7 HBC7 HKP7 HRY7v HRZ7v HN7 ⊢
     clear hb7 hbc hs7 hsz hbcn HKP HBX HBR HBA HRY HRZ
     have HRY7 := Aside0.mk HRY7v.out.rt
     have HBw70 : Aside0 (Below w7.heap.size w7 w7.drew) := ⟨(Below.refl w7.heap.size w7).drew⟩
     have HSK : Aside0 (∀ W, Below w7.heap.size w7 W → W.cell? ⟨w.heap.size, 0, none⟩ = some (.slice Y0 (rN y).length e0) ∧ W.cell? ⟨w.heap.size, 1, none⟩ = some (.slice Y1 (rD y).length e1)) := ⟨fun W hb => by
      have hk := (hb.block _ (zaw HBX7.out)).trans HBX7.out
      exact ⟨(zac hk 0).trans rfl, (zac hk 1).trans rfl⟩⟩
     refine zdi (n := 10) (S := fun W => W.cell? ⟨w.heap.size, 0, none⟩ = some (.slice Y0 (rN y).length e0) ∧ W.cell? ⟨w.heap.size, 1, none⟩ = some (.slice Y1 (rD y).length e1)) (ds := []) #[false, false, false, false, false, false, false, false, false, false] (by kernel_rfl) rfl rfl (HSK.out _ HBw70.out) (fun hHeld => ?_); refine zcn lv12tab lv12bits (fun HT_ HW_ => ?_)
     refine take_ (i := 0) (N := some 37) (v := ?_) (a' := ?_) #[true, false, false, false, false, false, false, false, false, false] rfl rfl (zbp HT_.out HW_.out (by kernel_rfl)) (fun _ _ _ h => h) (Or.inl ⟨by rfl, ?_⟩) hHeld ?_ ?_
     rotate_left
     ·
      rintro w' ⟨s0, s1⟩
      go_simp
      with_reducible rfl
     rotate_left
     ·
      simp only [Act.put, List.setIfInBounds_toArray, List.set_cons_zero, List.set_cons_succ, i64_w, i32_w]
      rfl
     refine pure_ (i := 1) (N := some 38) (v := ?_) (a' := ?_) #[true, true, false, false, false, false, false, false, false, false] rfl rfl (zas HT_.out (by kernel_rfl)) (fun _ _ _ h => h) (Or.inl ⟨by rfl, ?_⟩) ?_ ?_
     rotate_left
     ·
      intro w'
      go_simp
      with_reducible rfl
     rotate_left
     ·
      simp only [Act.put, List.setIfInBounds_toArray, List.set_cons_zero, List.set_cons_succ, i64_w, i32_w]
      rfl
     refine join_ (σ := Value × Value × Nat) 2 #[true, true, true, true, true, true, true, true, false, false] (fun s_ => [(39, s_.1), (40, .tuple #[s_.2.1, .int .i64 0]), (36, .tuple #[s_.2.1, .int .i64 0]), (41, s_.2.1), (42, .int .i64 0), (11, .pointer (some ⟨s_.2.2, 0, none⟩))]) (fun s_ w' => (w'.cell? ⟨w.heap.size, 0, none⟩ = some (.slice Y0 (rN y).length e0) ∧ w'.cell? ⟨w.heap.size, 1, none⟩ = some (.slice Y1 (rD y).length e1)) ∧ (∃ A c A' c', s_.2.1 = .agg #[.slice A (rN (y / (o : Rat))).length c, .slice A' (rD (y / (o : Rat))).length c'] ∧ RV w' (fun k => w7.heap.size ≤ k ∧ k ≠ s_.2.2) A c (rN (y / (o : Rat))) A' c' (rD (y / (o : Rat)))) ∧ w'.heap[s_.2.2]? = some (.cells #[.slice none 0 0, .slice none 0 0] 29 (0, 0)) ∧ w7.heap.size ≤ s_.2.2 ∧ Below w7.heap.size w7 w') ?_ ?_
     rotate_left
     ·
      intro hJ
      refine two_ (i := 2) (j := 7) (Ni := some 39) (Nj := some 11) #[true, true, true, false, false, false, false, false, false, false] #[true, true, false, false, false, false, false, true, false, false] rfl rfl rfl rfl (two_of HT_.out (by kernel_rfl)) (by decide) (by decide) (fun K hK => ?_) (fun K hK => ?_)
      ·
       skip
       refine goes_ Tryz.func18 (by kernel_rfl) rfl #[.int .i64 (o : Int)] (by rfl) rfl rfl (by (try simp only [List.map_toArray, List.map_cons, List.map_nil]); first | done | rfl) ?_
       refine (t_IntN o (by have := HO32.out; omega) _).mono ?_
       rintro e u1 ⟨uE00, uE01, uE02, uE03, rfl, hx, hb⟩
       refine ⟨_, rfl, ?_⟩
       have HBu1 : Aside0 (Below w7.heap.size w7 u1) := ⟨zab HBw70.out hb⟩
       have hzu1 := hb.size
       have HX0u1 := Aside0.mk hx.rt
       clear hx hb
       refine hK.out _ _ (HSK.out _ HBu1.out) (fun hHeld => ?_)
       clear hK K
       refine norm_ (a' := ?_) ?_ ?_
       rotate_left
       ·
        show Act.put _ (some 39) _ = _
        simp only [Act.put, List.setIfInBounds_toArray, List.set_cons_zero, List.set_cons_succ, i64_w, i32_w]
        rfl
       refine two_ (i := 3) (j := 7) (Ni := some 40) (Nj := some 11) #[true, true, true, true, false, false, false, false, false, false] #[true, true, true, false, false, false, false, true, false, false] rfl rfl rfl rfl (two_of HT_.out (by kernel_rfl)) (by decide) (by decide) (fun K hK => ?_) (fun K hK => ?_)
       ·
        skip
        refine goes_ Tryz.func77 (by kernel_rfl) rfl #[.agg #[.slice Y0 (rN y).length e0, .slice Y1 (rD y).length e1], .agg #[.slice uE00 _ uE01, .slice uE02 _ uE03]] (by rfl) rfl rfl (by (try simp only [List.map_toArray, List.map_cons, List.map_nil]); first | done | rfl) ?_
        refine (t_Div (HRY7.out.below HBu1.out) HX0u1.out HBY.out HBO.out (by have := HIB.out; omega) HPO.out).mono ?_
        rintro e u2 ⟨uE10, uE11, uE12, uE13, rfl, hx, hb⟩
        refine ⟨_, rfl, ?_⟩
        have HBu2 : Aside0 (Below w7.heap.size w7 u2) := ⟨zab HBu1.out hb⟩
        have hzu2 := hb.size
        have HYu2 := Aside0.mk hx
        clear hx hb
        refine hK.out _ _ (HSK.out _ HBu2.out) (fun hHeld => ?_)
        clear hK K
        refine norm_ (a' := ?_) ?_ ?_
        rotate_left
        ·
         show Act.put _ (some 40) _ = _
         simp only [Act.put, List.setIfInBounds_toArray, List.set_cons_zero, List.set_cons_succ, i64_w, i32_w]
         rfl
        refine pure_ (i := 4) (N := some 36) (v := ?_) (a' := ?_) #[true, true, true, true, true, false, false, false, false, false] rfl rfl (zas HT_.out (by kernel_rfl)) (fun _ _ _ h => h) (Or.inl ⟨by rfl, ?_⟩) ?_ ?_
        rotate_left
        ·
         intro w'
         go_simp
         with_reducible rfl
        rotate_left
        ·
         simp only [Act.put, List.setIfInBounds_toArray, List.set_cons_zero, List.set_cons_succ, i64_w, i32_w]
         rfl
        refine pure_ (i := 5) (N := some 41) (v := ?_) (a' := ?_) #[true, true, true, true, true, true, false, false, false, false] rfl rfl (zas HT_.out (by kernel_rfl)) (fun _ _ _ h => h) (Or.inl ⟨by rfl, ?_⟩) ?_ ?_
        rotate_left
        ·
         intro w'
         go_simp
         with_reducible rfl
        rotate_left
        ·
         simp only [Act.put, List.setIfInBounds_toArray, List.set_cons_zero, List.set_cons_succ, i64_w, i32_w]
         rfl
        refine pure_ (i := 6) (N := some 42) (v := ?_) (a' := ?_) #[true, true, true, true, true, true, true, false, false, false] rfl rfl (zas HT_.out (by kernel_rfl)) (fun _ _ _ h => h) (Or.inl ⟨by rfl, ?_⟩) ?_ ?_
        rotate_left
        ·
         intro w'
         go_simp
         with_reducible rfl
        rotate_left
        ·
         simp only [Act.put, List.setIfInBounds_toArray, List.set_cons_zero, List.set_cons_succ, i64_w, i32_w]
         rfl
        refine one_ (i := 7) (N := some 11) #[true, true, true, true, true, true, true, true, false, false] rfl rfl (zb6 HT_.out (by kernel_rfl)) (by decide) (fun K hK => ?_)
        refine box_step ?hg (N := 11) ?hd (cs := #[.slice none 0 0, .slice none 0 0]) (t := 29) ?hr ?_; (case hd => rfl); (case hg => rfl); (case hr => first | (go_simp; done) | (go_simp; rfl))
        intro gb hgb u3 hbox hb
        have HBu3 : Aside0 (Below w7.heap.size w7 u3) := ⟨zab HBu2.out hb⟩
        have HBXu3 := Aside0.mk hbox
        have hgl := zaw hbox
        have hge : w7.heap.size ≤ gb := by rw [hgb]; exact (HBu2.out).size
        have hzu3 := hb.size
        have HYu3 := Aside0.mk ((HYu2.out.old hb).mono (Q := fun k => w7.heap.size ≤ k ∧ k ≠ gb) (fun k hk => by have h0 := hk.1; have := hk.2; have := (HBu1.out).size; omega))
        clear hbox hb
        refine hK.out _ _ (HSK.out _ HBu3.out) (fun hHeld => ?_)
        clear hK K
        refine norm_ (a' := ?_) ?_ ?_
        rotate_left
        ·
         show Act.put _ (some 11) _ = _
         simp only [Act.put, List.setIfInBounds_toArray, List.set_cons_zero, List.set_cons_succ, i64_w, i32_w]
         rfl
        exact norm_ (by first | (simp only [putAll, Act.put, List.setIfInBounds_toArray, List.set_cons_zero, List.set_cons_succ]; done) | (simp only [putAll, Act.put, List.setIfInBounds_toArray, List.set_cons_zero, List.set_cons_succ]; rfl)) (hJ (_, _, gb) u3 ⟨hHeld, ⟨uE10, uE11, uE12, uE13, rfl, HYu3.out⟩, HBXu3.out, hge, HBu3.out⟩)
       ·
        skip
        refine box_step ?hg (N := 11) ?hd (cs := #[.slice none 0 0, .slice none 0 0]) (t := 29) ?hr ?_; (case hd => rfl); (case hg => rfl); (case hr => first | (go_simp; done) | (go_simp; rfl))
        intro gb hgb u2 hbox hb
        have HBu2 : Aside0 (Below w7.heap.size w7 u2) := ⟨zab HBu1.out hb⟩
        have HBXu2 := Aside0.mk hbox
        have hgl := zaw hbox
        have hge : w7.heap.size ≤ gb := by rw [hgb]; exact (HBu1.out).size
        have hzu2 := hb.size
        have HX0u2 := Aside0.mk (HX0u1.out.below hb)
        clear hbox hb
        refine hK.out _ _ (HSK.out _ HBu2.out) (fun hHeld => ?_)
        clear hK K
        refine norm_ (a' := ?_) ?_ ?_
        rotate_left
        ·
         show Act.put _ (some 11) _ = _
         simp only [Act.put, List.setIfInBounds_toArray, List.set_cons_zero, List.set_cons_succ, i64_w, i32_w]
         rfl
        refine one_ (i := 3) (N := some 40) #[true, true, true, true, false, false, false, true, false, false] rfl rfl (zb6 HT_.out (by kernel_rfl)) (by decide) (fun K hK => ?_)
        refine goes_ Tryz.func77 (by kernel_rfl) rfl #[.agg #[.slice Y0 (rN y).length e0, .slice Y1 (rD y).length e1], .agg #[.slice uE00 _ uE01, .slice uE02 _ uE03]] (by rfl) rfl rfl (by (try simp only [List.map_toArray, List.map_cons, List.map_nil]); first | done | rfl) ?_
        refine (t_Div (HRY7.out.below HBu2.out) HX0u2.out HBY.out HBO.out (by have := HIB.out; omega) HPO.out).mono ?_
        rintro e u3 ⟨uE10, uE11, uE12, uE13, rfl, hx, hb⟩
        refine ⟨_, rfl, ?_⟩
        have HBu3 : Aside0 (Below w7.heap.size w7 u3) := ⟨zab HBu2.out hb⟩
        have hzu3 := hb.size
        have HYu3 := Aside0.mk hx
        have HBXu3 := Aside0.mk ((hb.block _ (zaw HBXu2.out)).trans HBXu2.out)
        clear hx hb
        refine hK.out _ _ (HSK.out _ HBu3.out) (fun hHeld => ?_)
        clear hK K
        refine norm_ (a' := ?_) ?_ ?_
        rotate_left
        ·
         show Act.put _ (some 40) _ = _
         simp only [Act.put, List.setIfInBounds_toArray, List.set_cons_zero, List.set_cons_succ, i64_w, i32_w]
         rfl
        refine pure_ (i := 4) (N := some 36) (v := ?_) (a' := ?_) #[true, true, true, true, true, false, false, true, false, false] rfl rfl (zas HT_.out (by kernel_rfl)) (fun _ _ _ h => h) (Or.inl ⟨by rfl, ?_⟩) ?_ ?_
        rotate_left
        ·
         intro w'
         go_simp
         with_reducible rfl
        rotate_left
        ·
         simp only [Act.put, List.setIfInBounds_toArray, List.set_cons_zero, List.set_cons_succ, i64_w, i32_w]
         rfl
        refine pure_ (i := 5) (N := some 41) (v := ?_) (a' := ?_) #[true, true, true, true, true, true, false, true, false, false] rfl rfl (zas HT_.out (by kernel_rfl)) (fun _ _ _ h => h) (Or.inl ⟨by rfl, ?_⟩) ?_ ?_
        rotate_left
        ·
         intro w'
         go_simp
         with_reducible rfl
        rotate_left
        ·
         simp only [Act.put, List.setIfInBounds_toArray, List.set_cons_zero, List.set_cons_succ, i64_w, i32_w]
         rfl
        refine pure_ (i := 6) (N := some 42) (v := ?_) (a' := ?_) #[true, true, true, true, true, true, true, true, false, false] rfl rfl (zas HT_.out (by kernel_rfl)) (fun _ _ _ h => h) (Or.inl ⟨by rfl, ?_⟩) ?_ ?_
        rotate_left
        ·
         intro w'
         go_simp
         with_reducible rfl
        rotate_left
        ·
         simp only [Act.put, List.setIfInBounds_toArray, List.set_cons_zero, List.set_cons_succ, i64_w, i32_w]
         rfl
        exact norm_ (by first | (simp only [putAll, Act.put, List.setIfInBounds_toArray, List.set_cons_zero, List.set_cons_succ]; done) | (simp only [putAll, Act.put, List.setIfInBounds_toArray, List.set_cons_zero, List.set_cons_succ]; rfl)) (hJ (_, _, gb) u3 ⟨hHeld, ⟨uE10, uE11, uE12, uE13, rfl, (HYu3.out.mono (fun k hk => by have h : u2.heap.size ≤ k := hk; have := (HBu2.out).size; show w7.heap.size ≤ k ∧ k ≠ gb; omega))⟩, HBXu3.out, hge, HBu3.out⟩)
      ·
       skip
       refine box_step ?hg (N := 11) ?hd (cs := #[.slice none 0 0, .slice none 0 0]) (t := 29) ?hr ?_; (case hd => rfl); (case hg => rfl); (case hr => first | (go_simp; done) | (go_simp; rfl))
       intro gb hgb u1 hbox hb
       have HBu1 : Aside0 (Below w7.heap.size w7 u1) := ⟨zab HBw70.out hb⟩
       have HBXu1 := Aside0.mk hbox
       have hgl := zaw hbox
       have hge : w7.heap.size ≤ gb := by rw [hgb]; exact (HBw70.out).size
       have hzu1 := hb.size
       clear hbox hb
       refine hK.out _ _ (HSK.out _ HBu1.out) (fun hHeld => ?_)
       clear hK K
       refine norm_ (a' := ?_) ?_ ?_
       rotate_left
       ·
        show Act.put _ (some 11) _ = _
        simp only [Act.put, List.setIfInBounds_toArray, List.set_cons_zero, List.set_cons_succ, i64_w, i32_w]
        rfl
       refine one_ (i := 2) (N := some 39) #[true, true, true, false, false, false, false, true, false, false] rfl rfl (zb6 HT_.out (by kernel_rfl)) (by decide) (fun K hK => ?_)
       refine goes_ Tryz.func18 (by kernel_rfl) rfl #[.int .i64 (o : Int)] (by rfl) rfl rfl (by (try simp only [List.map_toArray, List.map_cons, List.map_nil]); first | done | rfl) ?_
       refine (t_IntN o (by have := HO32.out; omega) _).mono ?_
       rintro e u2 ⟨uE00, uE01, uE02, uE03, rfl, hx, hb⟩
       refine ⟨_, rfl, ?_⟩
       have HBu2 : Aside0 (Below w7.heap.size w7 u2) := ⟨zab HBu1.out hb⟩
       have hzu2 := hb.size
       have HX0u2 := Aside0.mk hx.rt
       have HBXu2 := Aside0.mk ((hb.block _ (zaw HBXu1.out)).trans HBXu1.out)
       clear hx hb
       refine hK.out _ _ (HSK.out _ HBu2.out) (fun hHeld => ?_)
       clear hK K
       refine norm_ (a' := ?_) ?_ ?_
       rotate_left
       ·
        show Act.put _ (some 39) _ = _
        simp only [Act.put, List.setIfInBounds_toArray, List.set_cons_zero, List.set_cons_succ, i64_w, i32_w]
        rfl
       refine one_ (i := 3) (N := some 40) #[true, true, true, true, false, false, false, true, false, false] rfl rfl (zb6 HT_.out (by kernel_rfl)) (by decide) (fun K hK => ?_)
       refine goes_ Tryz.func77 (by kernel_rfl) rfl #[.agg #[.slice Y0 (rN y).length e0, .slice Y1 (rD y).length e1], .agg #[.slice uE00 _ uE01, .slice uE02 _ uE03]] (by rfl) rfl rfl (by (try simp only [List.map_toArray, List.map_cons, List.map_nil]); first | done | rfl) ?_
       refine (t_Div (HRY7.out.below HBu2.out) HX0u2.out HBY.out HBO.out (by have := HIB.out; omega) HPO.out).mono ?_
       rintro e u3 ⟨uE10, uE11, uE12, uE13, rfl, hx, hb⟩
       refine ⟨_, rfl, ?_⟩
       have HBu3 : Aside0 (Below w7.heap.size w7 u3) := ⟨zab HBu2.out hb⟩
       have hzu3 := hb.size
       have HYu3 := Aside0.mk hx
       have HBXu3 := Aside0.mk ((hb.block _ (zaw HBXu2.out)).trans HBXu2.out)
       clear hx hb
       refine hK.out _ _ (HSK.out _ HBu3.out) (fun hHeld => ?_)
       clear hK K
       refine norm_ (a' := ?_) ?_ ?_
       rotate_left
       ·
        show Act.put _ (some 40) _ = _
        simp only [Act.put, List.setIfInBounds_toArray, List.set_cons_zero, List.set_cons_succ, i64_w, i32_w]
        rfl
       refine pure_ (i := 4) (N := some 36) (v := ?_) (a' := ?_) #[true, true, true, true, true, false, false, true, false, false] rfl rfl (zas HT_.out (by kernel_rfl)) (fun _ _ _ h => h) (Or.inl ⟨by rfl, ?_⟩) ?_ ?_
       rotate_left
       ·
        intro w'
        go_simp
        with_reducible rfl
       rotate_left
       ·
        simp only [Act.put, List.setIfInBounds_toArray, List.set_cons_zero, List.set_cons_succ, i64_w, i32_w]
        rfl
       refine pure_ (i := 5) (N := some 41) (v := ?_) (a' := ?_) #[true, true, true, true, true, true, false, true, false, false] rfl rfl (zas HT_.out (by kernel_rfl)) (fun _ _ _ h => h) (Or.inl ⟨by rfl, ?_⟩) ?_ ?_
       rotate_left
       ·
        intro w'
        go_simp
        with_reducible rfl
       rotate_left
       ·
        simp only [Act.put, List.setIfInBounds_toArray, List.set_cons_zero, List.set_cons_succ, i64_w, i32_w]
        rfl
       refine pure_ (i := 6) (N := some 42) (v := ?_) (a' := ?_) #[true, true, true, true, true, true, true, true, false, false] rfl rfl (zas HT_.out (by kernel_rfl)) (fun _ _ _ h => h) (Or.inl ⟨by rfl, ?_⟩) ?_ ?_
       rotate_left
       ·
        intro w'
        go_simp
        with_reducible rfl
       rotate_left
       ·
        simp only [Act.put, List.setIfInBounds_toArray, List.set_cons_zero, List.set_cons_succ, i64_w, i32_w]
        rfl
       exact norm_ (by first | (simp only [putAll, Act.put, List.setIfInBounds_toArray, List.set_cons_zero, List.set_cons_succ]; done) | (simp only [putAll, Act.put, List.setIfInBounds_toArray, List.set_cons_zero, List.set_cons_succ]; rfl)) (hJ (_, _, gb) u3 ⟨hHeld, ⟨uE10, uE11, uE12, uE13, rfl, (HYu3.out.mono (fun k hk => by have h : u2.heap.size ≤ k := hk; have := (HBu2.out).size; show w7.heap.size ≤ k ∧ k ≠ gb; omega))⟩, HBXu3.out, hge, HBu3.out⟩)
     rintro ⟨v40_, y_, g11⟩ w8 ⟨hHeld, ⟨m0, m1, m2, m3, hy, hRV⟩, hbox, hge, hb8⟩
     dsimp only at hy hbox hge hRV
     subst hy
     have q0 : w8.cell? ⟨g11, 0, none⟩ = some (.slice none 0 0) := (zac hbox 0).trans rfl
     have q1 : w8.cell? ⟨g11, 1, none⟩ = some (.slice none 0 0) := (zac hbox 1).trans rfl
     have q2 := zaj hbox 0
     have q3 := zaj hbox 1
     have HBF := Aside0.mk ((hb8.setCell (p := ⟨g11, 0, none⟩) hge (.slice m0 (rN (y / (o : Rat))).length m1)).setCell (p := ⟨g11, 1, none⟩) hge (.slice m2 (rD (y / (o : Rat))).length m3))
     have HRF := Aside0.mk (((hRV.far (p := ⟨g11, 0, none⟩) (fun k hk => hk.2) (.slice m0 (rN (y / (o : Rat))).length m1)).far (p := ⟨g11, 1, none⟩) (fun k hk => hk.2) (.slice m2 (rD (y / (o : Rat))).length m3)))
     have HXF := Aside0.mk (zbb (zbb hbox 0 (.slice m0 (rN (y / (o : Rat))).length m1) rfl) 1 (.slice m2 (rD (y / (o : Rat))).length m3) rfl)
     have HGEg11 := Aside0.mk hge
     clear hRV hbox hb8
     refine norm_ (a' := ?_) ?_ ?_
     rotate_left
     ·
      simp only [putAll, Act.put, List.setIfInBounds_toArray, List.set_cons_zero, List.set_cons_succ]
      rfl
     refine one_ (i := 8) (N := none) #[true, true, true, true, true, true, true, true, true, false] rfl rfl (zb6 HT_.out (by kernel_rfl)) (by decide) (fun K hK => ?_)
     refine skip_ (w1 := ?_) (by rfl) rfl ?_ ?_
     rotate_left
     ·
      go_simp
      rfl
     refine hK.out _ _ (HSK.out _ HBF.out) (fun hHeld => ?_)
     clear hK K q0 q1 q2 q3
     generalize (w8.setCell ⟨g11, 0, none⟩ (.slice m0 (rN (y / (o : Rat))).length m1)).setCell ⟨g11, 1, none⟩ (.slice m2 (rD (y / (o : Rat))).length m3) = w9 at HBF HRF HXF hHeld ⊢
     have HBw9 := HBF
     have HRw9 := HRF
     have HXw9 := HXF
     clear HBF HRF HXF hge
     refine pure_ (i := 9) (N := some 12) (v := ?_) (a' := ?_) #[true, true, true, true, true, true, true, true, true, true] rfl rfl (zas HT_.out (by kernel_rfl)) (fun _ _ _ h => h) (Or.inl ⟨by rfl, ?_⟩) ?_ ?_
     rotate_left
     ·
      intro w'
      go_simp
      with_reducible rfl
     rotate_left
     ·
      simp only [Act.put, List.setIfInBounds_toArray, List.set_cons_zero, List.set_cons_succ, i64_w, i32_w]
      rfl
     refine done_ (zc7 HT_.out (by kernel_rfl)) ?_
     have HRY9v := Aside0.mk (HRY7v.out.kp3 (Kp3.of_below HBw9.out) (fun k hk => hk))
     have HRZ9v := Aside0.mk (HRZ7v.out.kp3 (Kp3.of_below HBw9.out) (fun k hk => hk.2))
     have HBC9 := Aside0.mk ((HBw9.out.block _ (zaw HBC7.out)).trans HBC7.out)
     have HBw90 : Aside0 (Below w9.heap.size w9 w9.drew) := ⟨(Below.refl w9.heap.size w9).drew⟩
     have HSL : Aside0 (∀ W, Below w9.heap.size w9 W → W.cell? ⟨bc, 0, none⟩ = some (.int .i64 (p.1 : Int)) ∧ W.cell? ⟨bc, 1, none⟩ = some (.int .i64 (p.2 : Int))) := ⟨fun W hb => by
      have hk := (hb.block _ (zaw HBC9.out)).trans HBC9.out
      exact ⟨(zac hk 0).trans rfl, (zac hk 1).trans rfl⟩⟩
     go_wp2_with fail
     refine zdi (n := 13) (S := fun W => W.cell? ⟨bc, 0, none⟩ = some (.int .i64 (p.1 : Int)) ∧ W.cell? ⟨bc, 1, none⟩ = some (.int .i64 (p.2 : Int))) (ds := []) #[false, false, false, false, false, false, false, false, false, false, false, false, false] (by kernel_rfl) rfl rfl (HSL.out _ HBw90.out) (fun hHeld => ?_); refine zcn lv13tab lv13bits (fun HT_ HW_ => ?_)
     refine pure_ (i := 0) (N := some 44) (v := ?_) (a' := ?_) #[true, false, false, false, false, false, false, false, false, false, false, false, false] rfl rfl (zas HT_.out (by kernel_rfl)) (fun _ _ _ h => h) (Or.inl ⟨by rfl, ?_⟩) ?_ ?_
     rotate_left
     ·
      intro w'
      go_simp
      with_reducible rfl
     rotate_left
     ·
      simp only [Act.put, List.setIfInBounds_toArray, List.set_cons_zero, List.set_cons_succ, i64_w, i32_w]
      rfl
     refine take_ (i := 1) (N := some 45) (v := ?_) (a' := ?_) #[true, true, false, false, false, false, false, false, false, false, false, false, false] rfl rfl (zbp HT_.out HW_.out (by kernel_rfl)) (fun _ _ _ h => h) (Or.inl ⟨by rfl, ?_⟩) hHeld ?_ ?_
     rotate_left
     ·
      rintro w' ⟨s0, s1⟩
      go_simp
      with_reducible rfl
     rotate_left
     ·
      simp only [Act.put, List.setIfInBounds_toArray, List.set_cons_zero, List.set_cons_succ, i64_w, i32_w]
      rfl
     refine pure_ (i := 3) (N := some 47) (v := ?_) (a' := ?_) #[true, true, false, true, false, false, false, false, false, false, false, false, false] rfl rfl (zas HT_.out (by kernel_rfl)) (fun _ _ _ h => h) (Or.inl ⟨by rfl, ?_⟩) ?_ ?_
     rotate_left
     ·
      intro w'
      go_simp
      with_reducible rfl
     rotate_left
     ·
      simp only [Act.put, List.setIfInBounds_toArray, List.set_cons_zero, List.set_cons_succ, i64_w, i32_w]
      rfl
     refine take_ (i := 4) (N := some 48) (v := ?_) (a' := ?_) #[true, true, false, true, true, false, false, false, false, false, false, false, false] rfl rfl (zbp HT_.out HW_.out (by kernel_rfl)) (fun _ _ _ h => h) (Or.inl ⟨by rfl, ?_⟩) hHeld ?_ ?_
     rotate_left
     ·
      rintro w' ⟨s0, s1⟩
      go_simp
      with_reducible rfl
     rotate_left
     ·
      simp only [Act.put, List.setIfInBounds_toArray, List.set_cons_zero, List.set_cons_succ, i64_w, i32_w]
      rfl
     refine join_ (σ := Value × Value × Value × Nat) 2 #[true, true, true, true, true, true, true, true, true, true, true, false, false] (fun s_ => [(46, s_.1), (49, s_.2.1), (50, .tuple #[s_.2.2.1, .int .i64 0]), (43, .tuple #[s_.2.2.1, .int .i64 0]), (51, s_.2.2.1), (52, .int .i64 0), (13, .pointer (some ⟨s_.2.2.2, 0, none⟩))]) (fun s_ w' => (w'.cell? ⟨bc, 0, none⟩ = some (.int .i64 (p.1 : Int)) ∧ w'.cell? ⟨bc, 1, none⟩ = some (.int .i64 (p.2 : Int))) ∧ (∃ A c A' c', s_.2.2.1 = .agg #[.slice A (rN ((p.2 : Rat) / (p.1 : Rat))).length c, .slice A' (rD ((p.2 : Rat) / (p.1 : Rat))).length c'] ∧ RV w' (fun k => w9.heap.size ≤ k ∧ k ≠ s_.2.2.2) A c (rN ((p.2 : Rat) / (p.1 : Rat))) A' c' (rD ((p.2 : Rat) / (p.1 : Rat)))) ∧ w'.heap[s_.2.2.2]? = some (.cells #[.slice none 0 0, .slice none 0 0] 29 (0, 0)) ∧ w9.heap.size ≤ s_.2.2.2 ∧ Below w9.heap.size w9 w') ?_ ?_
     rotate_left
     ·
      intro hJ
      refine two_ (i := 2) (j := 10) (Ni := some 46) (Nj := some 13) #[true, true, true, true, true, false, false, false, false, false, false, false, false] #[true, true, false, true, true, false, false, false, false, false, true, false, false] rfl rfl rfl rfl (two_of HT_.out (by kernel_rfl)) (by decide) (by decide) (fun K hK => ?_) (fun K hK => ?_)
      ·
       skip
       refine goes_ Tryz.func18 (by kernel_rfl) rfl #[.int .i64 (p.2 : Int)] (by rfl) rfl rfl (by (try simp only [List.map_toArray, List.map_cons, List.map_nil]); first | done | rfl) ?_
       refine (t_IntN p.2 (by have := HPG.out; omega) _).mono ?_
       rintro e t1 ⟨tE00, tE01, tE02, tE03, rfl, hx, hb⟩
       refine ⟨_, rfl, ?_⟩
       have HBt1 : Aside0 (Below w9.heap.size w9 t1) := ⟨zab HBw90.out hb⟩
       have hzt1 := hb.size
       have HX0t1 := Aside0.mk hx.rt
       clear hx hb
       refine hK.out _ _ (HSL.out _ HBt1.out) (fun hHeld => ?_)
       clear hK K
       refine norm_ (a' := ?_) ?_ ?_
       rotate_left
       ·
        show Act.put _ (some 46) _ = _
        simp only [Act.put, List.setIfInBounds_toArray, List.set_cons_zero, List.set_cons_succ, i64_w, i32_w]
        rfl
       refine two_ (i := 5) (j := 10) (Ni := some 49) (Nj := some 13) #[true, true, true, true, true, true, false, false, false, false, false, false, false] #[true, true, true, true, true, false, false, false, false, false, true, false, false] rfl rfl rfl rfl (two_of HT_.out (by kernel_rfl)) (by decide) (by decide) (fun K hK => ?_) (fun K hK => ?_)
       ·
        skip
        refine goes_ Tryz.func18 (by kernel_rfl) rfl #[.int .i64 (p.1 : Int)] (by rfl) rfl rfl (by (try simp only [List.map_toArray, List.map_cons, List.map_nil]); first | done | rfl) ?_
        refine (t_IntN p.1 (by have := HPG.out; omega) _).mono ?_
        rintro e t2 ⟨tE10, tE11, tE12, tE13, rfl, hx, hb⟩
        refine ⟨_, rfl, ?_⟩
        have HBt2 : Aside0 (Below w9.heap.size w9 t2) := ⟨zab HBt1.out hb⟩
        have hzt2 := hb.size
        have HX1t2 := Aside0.mk hx.rt
        have HX0t2 := Aside0.mk (HX0t1.out.below hb)
        clear hx hb
        refine hK.out _ _ (HSL.out _ HBt2.out) (fun hHeld => ?_)
        clear hK K
        refine norm_ (a' := ?_) ?_ ?_
        rotate_left
        ·
         show Act.put _ (some 49) _ = _
         simp only [Act.put, List.setIfInBounds_toArray, List.set_cons_zero, List.set_cons_succ, i64_w, i32_w]
         rfl
        refine two_ (i := 6) (j := 10) (Ni := some 50) (Nj := some 13) #[true, true, true, true, true, true, true, false, false, false, false, false, false] #[true, true, true, true, true, true, false, false, false, false, true, false, false] rfl rfl rfl rfl (two_of HT_.out (by kernel_rfl)) (by decide) (by decide) (fun K hK => ?_) (fun K hK => ?_)
        ·
         skip
         refine goes_ Tryz.func77 (by kernel_rfl) rfl #[.agg #[.slice tE00 _ tE01, .slice tE02 _ tE03], .agg #[.slice tE10 _ tE11, .slice tE12 _ tE13]] (by rfl) rfl rfl (by (try simp only [List.map_toArray, List.map_cons, List.map_nil]); first | done | rfl) ?_
         refine (t_Div HX0t2.out HX1t2.out (bdN (x := p.2) (by have := HPG.out; omega)) (bdN (x := p.1) (by have := HPG.out; omega)) (by omega) HPP.out).mono ?_
         rintro e t3 ⟨tE20, tE21, tE22, tE23, rfl, hx, hb⟩
         refine ⟨_, rfl, ?_⟩
         have HBt3 : Aside0 (Below w9.heap.size w9 t3) := ⟨zab HBt2.out hb⟩
         have hzt3 := hb.size
         have HYt3 := Aside0.mk hx
         clear hx hb
         refine hK.out _ _ (HSL.out _ HBt3.out) (fun hHeld => ?_)
         clear hK K
         refine norm_ (a' := ?_) ?_ ?_
         rotate_left
         ·
          show Act.put _ (some 50) _ = _
          simp only [Act.put, List.setIfInBounds_toArray, List.set_cons_zero, List.set_cons_succ, i64_w, i32_w]
          rfl
         refine pure_ (i := 7) (N := some 43) (v := ?_) (a' := ?_) #[true, true, true, true, true, true, true, true, false, false, false, false, false] rfl rfl (zas HT_.out (by kernel_rfl)) (fun _ _ _ h => h) (Or.inl ⟨by rfl, ?_⟩) ?_ ?_
         rotate_left
         ·
          intro w'
          go_simp
          with_reducible rfl
         rotate_left
         ·
          simp only [Act.put, List.setIfInBounds_toArray, List.set_cons_zero, List.set_cons_succ, i64_w, i32_w]
          rfl
         refine pure_ (i := 8) (N := some 51) (v := ?_) (a' := ?_) #[true, true, true, true, true, true, true, true, true, false, false, false, false] rfl rfl (zas HT_.out (by kernel_rfl)) (fun _ _ _ h => h) (Or.inl ⟨by rfl, ?_⟩) ?_ ?_
         rotate_left
         ·
          intro w'
          go_simp
          with_reducible rfl
         rotate_left
         ·
          simp only [Act.put, List.setIfInBounds_toArray, List.set_cons_zero, List.set_cons_succ, i64_w, i32_w]
          rfl
         refine pure_ (i := 9) (N := some 52) (v := ?_) (a' := ?_) #[true, true, true, true, true, true, true, true, true, true, false, false, false] rfl rfl (zas HT_.out (by kernel_rfl)) (fun _ _ _ h => h) (Or.inl ⟨by rfl, ?_⟩) ?_ ?_
         rotate_left
         ·
          intro w'
          go_simp
          with_reducible rfl
         rotate_left
         ·
          simp only [Act.put, List.setIfInBounds_toArray, List.set_cons_zero, List.set_cons_succ, i64_w, i32_w]
          rfl
         refine one_ (i := 10) (N := some 13) #[true, true, true, true, true, true, true, true, true, true, true, false, false] rfl rfl (zb6 HT_.out (by kernel_rfl)) (by decide) (fun K hK => ?_)
         refine box_step ?hg (N := 13) ?hd (cs := #[.slice none 0 0, .slice none 0 0]) (t := 29) ?hr ?_; (case hd => rfl); (case hg => rfl); (case hr => first | (go_simp; done) | (go_simp; rfl))
         intro gb hgb t4 hbox hb
         have HBt4 : Aside0 (Below w9.heap.size w9 t4) := ⟨zab HBt3.out hb⟩
         have HBXt4 := Aside0.mk hbox
         have hgl := zaw hbox
         have hge : w9.heap.size ≤ gb := by rw [hgb]; exact (HBt3.out).size
         have hzt4 := hb.size
         have HYt4 := Aside0.mk ((HYt3.out.old hb).mono (Q := fun k => w9.heap.size ≤ k ∧ k ≠ gb) (fun k hk => by have h0 := hk.1; have := hk.2; have := (HBt2.out).size; omega))
         clear hbox hb
         refine hK.out _ _ (HSL.out _ HBt4.out) (fun hHeld => ?_)
         clear hK K
         refine norm_ (a' := ?_) ?_ ?_
         rotate_left
         ·
          show Act.put _ (some 13) _ = _
          simp only [Act.put, List.setIfInBounds_toArray, List.set_cons_zero, List.set_cons_succ, i64_w, i32_w]
          rfl
         exact norm_ (by first | (simp only [putAll, Act.put, List.setIfInBounds_toArray, List.set_cons_zero, List.set_cons_succ]; done) | (simp only [putAll, Act.put, List.setIfInBounds_toArray, List.set_cons_zero, List.set_cons_succ]; rfl)) (hJ (_, _, _, gb) t4 ⟨hHeld, ⟨tE20, tE21, tE22, tE23, rfl, HYt4.out⟩, HBXt4.out, hge, HBt4.out⟩)
        ·
         skip
         refine box_step ?hg (N := 13) ?hd (cs := #[.slice none 0 0, .slice none 0 0]) (t := 29) ?hr ?_; (case hd => rfl); (case hg => rfl); (case hr => first | (go_simp; done) | (go_simp; rfl))
         intro gb hgb t3 hbox hb
         have HBt3 : Aside0 (Below w9.heap.size w9 t3) := ⟨zab HBt2.out hb⟩
         have HBXt3 := Aside0.mk hbox
         have hgl := zaw hbox
         have hge : w9.heap.size ≤ gb := by rw [hgb]; exact (HBt2.out).size
         have hzt3 := hb.size
         have HX0t3 := Aside0.mk (HX0t2.out.below hb)
         have HX1t3 := Aside0.mk (HX1t2.out.below hb)
         clear hbox hb
         refine hK.out _ _ (HSL.out _ HBt3.out) (fun hHeld => ?_)
         clear hK K
         refine norm_ (a' := ?_) ?_ ?_
         rotate_left
         ·
          show Act.put _ (some 13) _ = _
          simp only [Act.put, List.setIfInBounds_toArray, List.set_cons_zero, List.set_cons_succ, i64_w, i32_w]
          rfl
         refine one_ (i := 6) (N := some 50) #[true, true, true, true, true, true, true, false, false, false, true, false, false] rfl rfl (zb6 HT_.out (by kernel_rfl)) (by decide) (fun K hK => ?_)
         refine goes_ Tryz.func77 (by kernel_rfl) rfl #[.agg #[.slice tE00 _ tE01, .slice tE02 _ tE03], .agg #[.slice tE10 _ tE11, .slice tE12 _ tE13]] (by rfl) rfl rfl (by (try simp only [List.map_toArray, List.map_cons, List.map_nil]); first | done | rfl) ?_
         refine (t_Div HX0t3.out HX1t3.out (bdN (x := p.2) (by have := HPG.out; omega)) (bdN (x := p.1) (by have := HPG.out; omega)) (by omega) HPP.out).mono ?_
         rintro e t4 ⟨tE20, tE21, tE22, tE23, rfl, hx, hb⟩
         refine ⟨_, rfl, ?_⟩
         have HBt4 : Aside0 (Below w9.heap.size w9 t4) := ⟨zab HBt3.out hb⟩
         have hzt4 := hb.size
         have HYt4 := Aside0.mk hx
         have HBXt4 := Aside0.mk ((hb.block _ (zaw HBXt3.out)).trans HBXt3.out)
         clear hx hb
         refine hK.out _ _ (HSL.out _ HBt4.out) (fun hHeld => ?_)
         clear hK K
         refine norm_ (a' := ?_) ?_ ?_
         rotate_left
         ·
          show Act.put _ (some 50) _ = _
          simp only [Act.put, List.setIfInBounds_toArray, List.set_cons_zero, List.set_cons_succ, i64_w, i32_w]
          rfl
         refine pure_ (i := 7) (N := some 43) (v := ?_) (a' := ?_) #[true, true, true, true, true, true, true, true, false, false, true, false, false] rfl rfl (zas HT_.out (by kernel_rfl)) (fun _ _ _ h => h) (Or.inl ⟨by rfl, ?_⟩) ?_ ?_
         rotate_left
         ·
          intro w'
          go_simp
          with_reducible rfl
         rotate_left
         ·
          simp only [Act.put, List.setIfInBounds_toArray, List.set_cons_zero, List.set_cons_succ, i64_w, i32_w]
          rfl
         refine pure_ (i := 8) (N := some 51) (v := ?_) (a' := ?_) #[true, true, true, true, true, true, true, true, true, false, true, false, false] rfl rfl (zas HT_.out (by kernel_rfl)) (fun _ _ _ h => h) (Or.inl ⟨by rfl, ?_⟩) ?_ ?_
         rotate_left
         ·
          intro w'
          go_simp
          with_reducible rfl
         rotate_left
         ·
          simp only [Act.put, List.setIfInBounds_toArray, List.set_cons_zero, List.set_cons_succ, i64_w, i32_w]
          rfl
         refine pure_ (i := 9) (N := some 52) (v := ?_) (a' := ?_) #[true, true, true, true, true, true, true, true, true, true, true, false, false] rfl rfl (zas HT_.out (by kernel_rfl)) (fun _ _ _ h => h) (Or.inl ⟨by rfl, ?_⟩) ?_ ?_
         rotate_left
         ·
          intro w'
          go_simp
          with_reducible rfl
         rotate_left
         ·
          simp only [Act.put, List.setIfInBounds_toArray, List.set_cons_zero, List.set_cons_succ, i64_w, i32_w]
          rfl
         exact norm_ (by first | (simp only [putAll, Act.put, List.setIfInBounds_toArray, List.set_cons_zero, List.set_cons_succ]; done) | (simp only [putAll, Act.put, List.setIfInBounds_toArray, List.set_cons_zero, List.set_cons_succ]; rfl)) (hJ (_, _, _, gb) t4 ⟨hHeld, ⟨tE20, tE21, tE22, tE23, rfl, (HYt4.out.mono (fun k hk => by have h : t3.heap.size ≤ k := hk; have := (HBt3.out).size; show w9.heap.size ≤ k ∧ k ≠ gb; omega))⟩, HBXt4.out, hge, HBt4.out⟩)
       ·
        skip
        refine box_step ?hg (N := 13) ?hd (cs := #[.slice none 0 0, .slice none 0 0]) (t := 29) ?hr ?_; (case hd => rfl); (case hg => rfl); (case hr => first | (go_simp; done) | (go_simp; rfl))
        intro gb hgb t2 hbox hb
        have HBt2 : Aside0 (Below w9.heap.size w9 t2) := ⟨zab HBt1.out hb⟩
        have HBXt2 := Aside0.mk hbox
        have hgl := zaw hbox
        have hge : w9.heap.size ≤ gb := by rw [hgb]; exact (HBt1.out).size
        have hzt2 := hb.size
        have HX0t2 := Aside0.mk (HX0t1.out.below hb)
        clear hbox hb
        refine hK.out _ _ (HSL.out _ HBt2.out) (fun hHeld => ?_)
        clear hK K
        refine norm_ (a' := ?_) ?_ ?_
        rotate_left
        ·
         show Act.put _ (some 13) _ = _
         simp only [Act.put, List.setIfInBounds_toArray, List.set_cons_zero, List.set_cons_succ, i64_w, i32_w]
         rfl
        refine one_ (i := 5) (N := some 49) #[true, true, true, true, true, true, false, false, false, false, true, false, false] rfl rfl (zb6 HT_.out (by kernel_rfl)) (by decide) (fun K hK => ?_)
        refine goes_ Tryz.func18 (by kernel_rfl) rfl #[.int .i64 (p.1 : Int)] (by rfl) rfl rfl (by (try simp only [List.map_toArray, List.map_cons, List.map_nil]); first | done | rfl) ?_
        refine (t_IntN p.1 (by have := HPG.out; omega) _).mono ?_
        rintro e t3 ⟨tE10, tE11, tE12, tE13, rfl, hx, hb⟩
        refine ⟨_, rfl, ?_⟩
        have HBt3 : Aside0 (Below w9.heap.size w9 t3) := ⟨zab HBt2.out hb⟩
        have hzt3 := hb.size
        have HX1t3 := Aside0.mk hx.rt
        have HX0t3 := Aside0.mk (HX0t2.out.below hb)
        have HBXt3 := Aside0.mk ((hb.block _ (zaw HBXt2.out)).trans HBXt2.out)
        clear hx hb
        refine hK.out _ _ (HSL.out _ HBt3.out) (fun hHeld => ?_)
        clear hK K
        refine norm_ (a' := ?_) ?_ ?_
        rotate_left
        ·
         show Act.put _ (some 49) _ = _
         simp only [Act.put, List.setIfInBounds_toArray, List.set_cons_zero, List.set_cons_succ, i64_w, i32_w]
         rfl
        refine one_ (i := 6) (N := some 50) #[true, true, true, true, true, true, true, false, false, false, true, false, false] rfl rfl (zb6 HT_.out (by kernel_rfl)) (by decide) (fun K hK => ?_)
        refine goes_ Tryz.func77 (by kernel_rfl) rfl #[.agg #[.slice tE00 _ tE01, .slice tE02 _ tE03], .agg #[.slice tE10 _ tE11, .slice tE12 _ tE13]] (by rfl) rfl rfl (by (try simp only [List.map_toArray, List.map_cons, List.map_nil]); first | done | rfl) ?_
        refine (t_Div HX0t3.out HX1t3.out (bdN (x := p.2) (by have := HPG.out; omega)) (bdN (x := p.1) (by have := HPG.out; omega)) (by omega) HPP.out).mono ?_
        rintro e t4 ⟨tE20, tE21, tE22, tE23, rfl, hx, hb⟩
        refine ⟨_, rfl, ?_⟩
        have HBt4 : Aside0 (Below w9.heap.size w9 t4) := ⟨zab HBt3.out hb⟩
        have hzt4 := hb.size
        have HYt4 := Aside0.mk hx
        have HBXt4 := Aside0.mk ((hb.block _ (zaw HBXt3.out)).trans HBXt3.out)
        clear hx hb
        refine hK.out _ _ (HSL.out _ HBt4.out) (fun hHeld => ?_)
        clear hK K
        refine norm_ (a' := ?_) ?_ ?_
        rotate_left
        ·
         show Act.put _ (some 50) _ = _
         simp only [Act.put, List.setIfInBounds_toArray, List.set_cons_zero, List.set_cons_succ, i64_w, i32_w]
         rfl
        refine pure_ (i := 7) (N := some 43) (v := ?_) (a' := ?_) #[true, true, true, true, true, true, true, true, false, false, true, false, false] rfl rfl (zas HT_.out (by kernel_rfl)) (fun _ _ _ h => h) (Or.inl ⟨by rfl, ?_⟩) ?_ ?_
        rotate_left
        ·
         intro w'
         go_simp
         with_reducible rfl
        rotate_left
        ·
         simp only [Act.put, List.setIfInBounds_toArray, List.set_cons_zero, List.set_cons_succ, i64_w, i32_w]
         rfl
        refine pure_ (i := 8) (N := some 51) (v := ?_) (a' := ?_) #[true, true, true, true, true, true, true, true, true, false, true, false, false] rfl rfl (zas HT_.out (by kernel_rfl)) (fun _ _ _ h => h) (Or.inl ⟨by rfl, ?_⟩) ?_ ?_
        rotate_left
        ·
         intro w'
         go_simp
         with_reducible rfl
        rotate_left
        ·
         simp only [Act.put, List.setIfInBounds_toArray, List.set_cons_zero, List.set_cons_succ, i64_w, i32_w]
         rfl
        refine pure_ (i := 9) (N := some 52) (v := ?_) (a' := ?_) #[true, true, true, true, true, true, true, true, true, true, true, false, false] rfl rfl (zas HT_.out (by kernel_rfl)) (fun _ _ _ h => h) (Or.inl ⟨by rfl, ?_⟩) ?_ ?_
        rotate_left
        ·
         intro w'
         go_simp
         with_reducible rfl
        rotate_left
        ·
         simp only [Act.put, List.setIfInBounds_toArray, List.set_cons_zero, List.set_cons_succ, i64_w, i32_w]
         rfl
        exact norm_ (by first | (simp only [putAll, Act.put, List.setIfInBounds_toArray, List.set_cons_zero, List.set_cons_succ]; done) | (simp only [putAll, Act.put, List.setIfInBounds_toArray, List.set_cons_zero, List.set_cons_succ]; rfl)) (hJ (_, _, _, gb) t4 ⟨hHeld, ⟨tE20, tE21, tE22, tE23, rfl, (HYt4.out.mono (fun k hk => by have h : t3.heap.size ≤ k := hk; have := (HBt3.out).size; show w9.heap.size ≤ k ∧ k ≠ gb; omega))⟩, HBXt4.out, hge, HBt4.out⟩)
      ·
       skip
       refine box_step ?hg (N := 13) ?hd (cs := #[.slice none 0 0, .slice none 0 0]) (t := 29) ?hr ?_; (case hd => rfl); (case hg => rfl); (case hr => first | (go_simp; done) | (go_simp; rfl))
       intro gb hgb t1 hbox hb
       have HBt1 : Aside0 (Below w9.heap.size w9 t1) := ⟨zab HBw90.out hb⟩
       have HBXt1 := Aside0.mk hbox
       have hgl := zaw hbox
       have hge : w9.heap.size ≤ gb := by rw [hgb]; exact (HBw90.out).size
       have hzt1 := hb.size
       clear hbox hb
       refine hK.out _ _ (HSL.out _ HBt1.out) (fun hHeld => ?_)
       clear hK K
       refine norm_ (a' := ?_) ?_ ?_
       rotate_left
       ·
        show Act.put _ (some 13) _ = _
        simp only [Act.put, List.setIfInBounds_toArray, List.set_cons_zero, List.set_cons_succ, i64_w, i32_w]
        rfl
       refine one_ (i := 2) (N := some 46) #[true, true, true, true, true, false, false, false, false, false, true, false, false] rfl rfl (zb6 HT_.out (by kernel_rfl)) (by decide) (fun K hK => ?_)
       refine goes_ Tryz.func18 (by kernel_rfl) rfl #[.int .i64 (p.2 : Int)] (by rfl) rfl rfl (by (try simp only [List.map_toArray, List.map_cons, List.map_nil]); first | done | rfl) ?_
       refine (t_IntN p.2 (by have := HPG.out; omega) _).mono ?_
       rintro e t2 ⟨tE00, tE01, tE02, tE03, rfl, hx, hb⟩
       refine ⟨_, rfl, ?_⟩
       have HBt2 : Aside0 (Below w9.heap.size w9 t2) := ⟨zab HBt1.out hb⟩
       have hzt2 := hb.size
       have HX0t2 := Aside0.mk hx.rt
       have HBXt2 := Aside0.mk ((hb.block _ (zaw HBXt1.out)).trans HBXt1.out)
       clear hx hb
       refine hK.out _ _ (HSL.out _ HBt2.out) (fun hHeld => ?_)
       clear hK K
       refine norm_ (a' := ?_) ?_ ?_
       rotate_left
       ·
        show Act.put _ (some 46) _ = _
        simp only [Act.put, List.setIfInBounds_toArray, List.set_cons_zero, List.set_cons_succ, i64_w, i32_w]
        rfl
       refine one_ (i := 5) (N := some 49) #[true, true, true, true, true, true, false, false, false, false, true, false, false] rfl rfl (zb6 HT_.out (by kernel_rfl)) (by decide) (fun K hK => ?_)
       refine goes_ Tryz.func18 (by kernel_rfl) rfl #[.int .i64 (p.1 : Int)] (by rfl) rfl rfl (by (try simp only [List.map_toArray, List.map_cons, List.map_nil]); first | done | rfl) ?_
       refine (t_IntN p.1 (by have := HPG.out; omega) _).mono ?_
       rintro e t3 ⟨tE10, tE11, tE12, tE13, rfl, hx, hb⟩
       refine ⟨_, rfl, ?_⟩
       have HBt3 : Aside0 (Below w9.heap.size w9 t3) := ⟨zab HBt2.out hb⟩
       have hzt3 := hb.size
       have HX1t3 := Aside0.mk hx.rt
       have HX0t3 := Aside0.mk (HX0t2.out.below hb)
       have HBXt3 := Aside0.mk ((hb.block _ (zaw HBXt2.out)).trans HBXt2.out)
       clear hx hb
       refine hK.out _ _ (HSL.out _ HBt3.out) (fun hHeld => ?_)
       clear hK K
       refine norm_ (a' := ?_) ?_ ?_
       rotate_left
       ·
        show Act.put _ (some 49) _ = _
        simp only [Act.put, List.setIfInBounds_toArray, List.set_cons_zero, List.set_cons_succ, i64_w, i32_w]
        rfl
       refine one_ (i := 6) (N := some 50) #[true, true, true, true, true, true, true, false, false, false, true, false, false] rfl rfl (zb6 HT_.out (by kernel_rfl)) (by decide) (fun K hK => ?_)
       refine goes_ Tryz.func77 (by kernel_rfl) rfl #[.agg #[.slice tE00 _ tE01, .slice tE02 _ tE03], .agg #[.slice tE10 _ tE11, .slice tE12 _ tE13]] (by rfl) rfl rfl (by (try simp only [List.map_toArray, List.map_cons, List.map_nil]); first | done | rfl) ?_
       refine (t_Div HX0t3.out HX1t3.out (bdN (x := p.2) (by have := HPG.out; omega)) (bdN (x := p.1) (by have := HPG.out; omega)) (by omega) HPP.out).mono ?_
       rintro e t4 ⟨tE20, tE21, tE22, tE23, rfl, hx, hb⟩
       refine ⟨_, rfl, ?_⟩
       have HBt4 : Aside0 (Below w9.heap.size w9 t4) := ⟨zab HBt3.out hb⟩
       have hzt4 := hb.size
       have HYt4 := Aside0.mk hx
       have HBXt4 := Aside0.mk ((hb.block _ (zaw HBXt3.out)).trans HBXt3.out)
       clear hx hb
       refine hK.out _ _ (HSL.out _ HBt4.out) (fun hHeld => ?_)
       clear hK K
       refine norm_ (a' := ?_) ?_ ?_
       rotate_left
       ·
        show Act.put _ (some 50) _ = _
        simp only [Act.put, List.setIfInBounds_toArray, List.set_cons_zero, List.set_cons_succ, i64_w, i32_w]
        rfl
       refine pure_ (i := 7) (N := some 43) (v := ?_) (a' := ?_) #[true, true, true, true, true, true, true, true, false, false, true, false, false] rfl rfl (zas HT_.out (by kernel_rfl)) (fun _ _ _ h => h) (Or.inl ⟨by rfl, ?_⟩) ?_ ?_
       rotate_left
       ·
        intro w'
        go_simp
        with_reducible rfl
       rotate_left
       ·
        simp only [Act.put, List.setIfInBounds_toArray, List.set_cons_zero, List.set_cons_succ, i64_w, i32_w]
        rfl
       refine pure_ (i := 8) (N := some 51) (v := ?_) (a' := ?_) #[true, true, true, true, true, true, true, true, true, false, true, false, false] rfl rfl (zas HT_.out (by kernel_rfl)) (fun _ _ _ h => h) (Or.inl ⟨by rfl, ?_⟩) ?_ ?_
       rotate_left
       ·
        intro w'
        go_simp
        with_reducible rfl
       rotate_left
       ·
        simp only [Act.put, List.setIfInBounds_toArray, List.set_cons_zero, List.set_cons_succ, i64_w, i32_w]
        rfl
       refine pure_ (i := 9) (N := some 52) (v := ?_) (a' := ?_) #[true, true, true, true, true, true, true, true, true, true, true, false, false] rfl rfl (zas HT_.out (by kernel_rfl)) (fun _ _ _ h => h) (Or.inl ⟨by rfl, ?_⟩) ?_ ?_
       rotate_left
       ·
        intro w'
        go_simp
        with_reducible rfl
       rotate_left
       ·
        simp only [Act.put, List.setIfInBounds_toArray, List.set_cons_zero, List.set_cons_succ, i64_w, i32_w]
        rfl
       exact norm_ (by first | (simp only [putAll, Act.put, List.setIfInBounds_toArray, List.set_cons_zero, List.set_cons_succ]; done) | (simp only [putAll, Act.put, List.setIfInBounds_toArray, List.set_cons_zero, List.set_cons_succ]; rfl)) (hJ (_, _, _, gb) t4 ⟨hHeld, ⟨tE20, tE21, tE22, tE23, rfl, (HYt4.out.mono (fun k hk => by have h : t3.heap.size ≤ k := hk; have := (HBt3.out).size; show w9.heap.size ≤ k ∧ k ≠ gb; omega))⟩, HBXt4.out, hge, HBt4.out⟩)
     rintro ⟨v40_, v41_, y_, g13⟩ w10 ⟨hHeld, ⟨f0_, f1_, f2_, f3_, hy, hRV⟩, hbox, hge, hb8⟩
     dsimp only at hy hbox hge hRV
     subst hy
     have q0 : w10.cell? ⟨g13, 0, none⟩ = some (.slice none 0 0) := (zac hbox 0).trans rfl
     have q1 : w10.cell? ⟨g13, 1, none⟩ = some (.slice none 0 0) := (zac hbox 1).trans rfl
     have q2 := zaj hbox 0
     have q3 := zaj hbox 1
     have HBF := Aside0.mk ((hb8.setCell (p := ⟨g13, 0, none⟩) hge (.slice f0_ (rN ((p.2 : Rat) / (p.1 : Rat))).length f1_)).setCell (p := ⟨g13, 1, none⟩) hge (.slice f2_ (rD ((p.2 : Rat) / (p.1 : Rat))).length f3_))
     have HRF := Aside0.mk (((hRV.far (p := ⟨g13, 0, none⟩) (fun k hk => hk.2) (.slice f0_ (rN ((p.2 : Rat) / (p.1 : Rat))).length f1_)).far (p := ⟨g13, 1, none⟩) (fun k hk => hk.2) (.slice f2_ (rD ((p.2 : Rat) / (p.1 : Rat))).length f3_)))
     have HXF := Aside0.mk (zbb (zbb hbox 0 (.slice f0_ (rN ((p.2 : Rat) / (p.1 : Rat))).length f1_) rfl) 1 (.slice f2_ (rD ((p.2 : Rat) / (p.1 : Rat))).length f3_) rfl)
     have HGEg13 := Aside0.mk hge
     clear hRV hbox hb8
     refine norm_ (a' := ?_) ?_ ?_
     rotate_left
     ·
      simp only [putAll, Act.put, List.setIfInBounds_toArray, List.set_cons_zero, List.set_cons_succ]
      rfl
     refine one_ (i := 11) (N := none) #[true, true, true, true, true, true, true, true, true, true, true, true, false] rfl rfl (zb6 HT_.out (by kernel_rfl)) (by decide) (fun K hK => ?_)
     refine skip_ (w1 := ?_) (by rfl) rfl ?_ ?_
     rotate_left
     ·
      go_simp
      rfl
     refine hK.out _ _ (HSL.out _ HBF.out) (fun hHeld => ?_)
     clear hK K q0 q1 q2 q3
     generalize (w10.setCell ⟨g13, 0, none⟩ (.slice f0_ (rN ((p.2 : Rat) / (p.1 : Rat))).length f1_)).setCell ⟨g13, 1, none⟩ (.slice f2_ (rD ((p.2 : Rat) / (p.1 : Rat))).length f3_) = w11 at HBF HRF HXF hHeld ⊢
     have HBw11 := HBF
     have HRw11 := HRF
     have HXw11 := HXF
     clear HBF HRF HXF hge
     refine pure_ (i := 12) (N := some 14) (v := ?_) (a' := ?_) #[true, true, true, true, true, true, true, true, true, true, true, true, true] rfl rfl (zas HT_.out (by kernel_rfl)) (fun _ _ _ h => h) (Or.inl ⟨by rfl, ?_⟩) ?_ ?_
     rotate_left
     ·
      intro w'
      go_simp
      with_reducible rfl
     rotate_left
     ·
      simp only [Act.put, List.setIfInBounds_toArray, List.set_cons_zero, List.set_cons_succ, i64_w, i32_w]
      rfl
     refine done_ (zc7 HT_.out (by kernel_rfl)) ?_
     have HB711 := Aside0.mk (zab HBw9.out HBw11.out)
     have hx11 := (HBw11.out.block _ (zaw HXw9.out)).trans HXw9.out
     have HX11 := Aside0.mk hx11
     have q0 : w11.cell? ⟨g11, 0, none⟩ = some (.slice m0 (rN (y / (o : Rat))).length m1) := (zac hx11 0).trans rfl
     have q1 : w11.cell? ⟨g11, 1, none⟩ = some (.slice m2 (rD (y / (o : Rat))).length m3) := (zac hx11 1).trans rfl
     have q2 : w11.cell? ⟨g13, 0, none⟩ = some (.slice f0_ (rN ((p.2 : Rat) / (p.1 : Rat))).length f1_) := (zac HXw11.out 0).trans rfl
     have q3 : w11.cell? ⟨g13, 1, none⟩ = some (.slice f2_ (rD ((p.2 : Rat) / (p.1 : Rat))).length f3_) := (zac HXw11.out 1).trans rfl
     clear hx11
     go_wp2_with fail
     have hC := t_Cmp (HRw9.out.rt.below HBw11.out) HRw11.out.rt (HBY.out.div HBO.out HPO.out) (bdFul p (by have := HPG.out; omega) (by have := HPG.out; omega) HPG.out.1) (by have := HIB.out; omega)
     refine hC.mono ?_
     clear hC q0 q1 q2 q3
     rintro e w14 ⟨rfl, hb14⟩
     have HB714 := Aside0.mk (zab HB711.out hb14)
     have HX1114 := Aside0.mk ((hb14.block _ (zaw HX11.out)).trans HX11.out)
     have HX1314 := Aside0.mk ((hb14.block _ (zaw HXw11.out)).trans HXw11.out)
     have HBR14 := Aside0.mk ((HB714.out.block _ (zaw HBR7.out)).trans HBR7.out)
     have HBX14 := Aside0.mk ((HB714.out.block _ (zaw HBX7.out)).trans HBX7.out)
     have HBA14 := Aside0.mk ((HB714.out.block _ (zaw HBA7.out)).trans HBA7.out)
     have HBC14 := Aside0.mk ((HB714.out.block _ (zaw HBC7.out)).trans HBC7.out)
     have HKP14 := Aside0.mk (HKP7.out.trans (Kp3.of_below HB714.out))
     have HRY14v := Aside0.mk (HRY7v.out.kp3 (Kp3.of_below HB714.out) (fun k hk => hk))
     have HRZ14v := Aside0.mk (HRZ7v.out.kp3 (Kp3.of_below HB714.out) (fun k hk => hk.2))
     have HSh14 := Aside0.mk (((HRw9.out.old HBw11.out).old hb14).mono (Q := fun k => w.heap.size ≤ k ∧ k ≠ w.heap.size ∧ k ≠ w.heap.size + 1 ∧ k ≠ b8) (fun k hk => by have := hk.1.1; have := HN7.out; omega))
     have HFu14 := Aside0.mk ((HRw11.out.old hb14).mono (Q := fun k => w.heap.size ≤ k ∧ k ≠ w.heap.size ∧ k ≠ w.heap.size + 1 ∧ k ≠ b8) (fun k hk => by have := hk.1; have := HBw9.out.size; have := HN7.out; omega))
     have HB79 := HBw9
     clear hb14 HRw9 HRw11 HX11 HXw11 HXw9 HBX7 HBR7 HBA7 HBC7 HKP7 HRY7v HRZ7v HRY9v HRZ9v HBC9 HSL HSK HBw90 HBw70 HRY7 HBw9 HBw11 HB711
     generalize hcq : cmpR (y / (o : Rat)) ((p.2 : Rat) / (p.1 : Rat)) = cq
     by_cases hlt : y / (o : Rat) < (p.2 : Rat) / (p.1 : Rat)
     ·
      have d6 : decide (cq < 0) = true := decide_eq_true (by rw [← hcq]; exact cmpR_neg.2 hlt)
      have hL := HLV2.out.2.2
      unfold levP at hL
      rw [if_pos hlt] at hL
      have HL := Aside0.mk hL
      have q0 : w14.cell? ⟨g11, 0, none⟩ = some (.slice m0 (rN (y / (o : Rat))).length m1) := (zac HX1114.out 0).trans rfl
      have q1 : w14.cell? ⟨g11, 1, none⟩ = some (.slice m2 (rD (y / (o : Rat))).length m3) := (zac HX1114.out 1).trans rfl
      have q2 : w14.cell? ⟨w.heap.size + 1, 0, none⟩ = some (.slice none 0 0) := (zac HBR14.out 0).trans rfl
      have q3 : w14.cell? ⟨w.heap.size + 1, 1, none⟩ = some (.slice none 0 0) := (zac HBR14.out 1).trans rfl
      have q4 := zaj HBR14.out 0
      have q5 := zaj HBR14.out 1
      have HSF := Aside0.mk ((HSh14.out.far (p := ⟨w.heap.size + 1, 0, none⟩) (fun k hk => hk.2.2.1) (.slice m0 (rN (y / (o : Rat))).length m1)).far (p := ⟨w.heap.size + 1, 1, none⟩) (fun k hk => hk.2.2.1) (.slice m2 (rD (y / (o : Rat))).length m3))
      have HBF := Aside0.mk (zbb (zbb HBR14.out 0 (.slice m0 (rN (y / (o : Rat))).length m1) rfl) 1 (.slice m2 (rD (y / (o : Rat))).length m3) rfl)
      have HKF := Aside0.mk ((HKP14.out.set ⟨w.heap.size + 1, 0, none⟩ (.inr (.inl rfl)) (.slice m0 (rN (y / (o : Rat))).length m1)).set ⟨w.heap.size + 1, 1, none⟩ (.inr (.inl rfl)) (.slice m2 (rD (y / (o : Rat))).length m3))
      clear hcq hlt hL
      go_wp2_with fail
      all_goals first | (exfalso; first | (have h_ := of_decide_eq_true d6; omega) | (have h_ := of_decide_eq_false d6; omega)) | skip
      refine bodyPost_ret (results_cell_row rfl _ _ (w.heap.size + 1) 29 _ (0, 0) _ rfl HBF.out Tryz.underlying29 rfl (by kernel_rfl)) rfl ?_
      refine ⟨_, _, rfl, ?_, ?_, HKF.out.below HB6.out (by have := HB6.out.size; omega) (Nat.le_refl _) (by omega) (by have := HN7.out; omega)⟩
      ·
       rw [← HL.out]
       exact (HSF.out.mono (Q := fun k => w.heap.size ≤ k) (fun k hk => hk.1)).1
      ·
       rw [← HL.out]
       exact (HSF.out.mono (Q := fun k => w.heap.size ≤ k) (fun k hk => hk.1)).2
     ·
      have d6 : decide (cq < 0) = false := decide_eq_false (by rw [← hcq]; exact cmpR_ge (Rat.not_lt.1 hlt))
      have hL := HLV2.out.2.2
      unfold levP at hL
      rw [if_neg hlt] at hL
      have HL := Aside0.mk hL
      have HLE : Aside0 ((p.2 : Rat) ≤ y) := ⟨by
       have h0 : 0 ≤ y / (o : Rat) := (HBY.out.div HBO.out HPO.out).1
       have h1 := zc6 (Rat.not_lt.1 hlt) (zbw p.1)
       have h2 := zc6 (Rat.natCast_le_natCast.2 HWO.out) h0
       rw [div_mul HPP.out] at h1
       have h3 := div_mul (a := y) HPO.out
       grind⟩
      have q0 : w14.cell? ⟨g11, 0, none⟩ = some (.slice m0 (rN (y / (o : Rat))).length m1) := (zac HX1114.out 0).trans rfl
      clear hcq hlt hL q0
      go_wp2_with fail
      all_goals first | (exfalso; first | (have h_ := of_decide_eq_true d6; omega) | (have h_ := of_decide_eq_false d6; omega)) | skip
      clear d6
      have HRY14 := Aside0.mk HRY14v.out.rt
      have HBw140 : Aside0 (Below w14.heap.size w14 w14.drew) := ⟨(Below.refl w14.heap.size w14).drew⟩
      have HSN : Aside0 (∀ W, Below w14.heap.size w14 W → W.cell? ⟨w.heap.size, 0, none⟩ = some (.slice Y0 (rN y).length e0) ∧ W.cell? ⟨w.heap.size, 1, none⟩ = some (.slice Y1 (rD y).length e1) ∧ W.cell? ⟨bc, 1, none⟩ = some (.int .i64 (p.2 : Int))) := ⟨fun W hb => by
       have hk := (hb.block _ (zaw HBX14.out)).trans HBX14.out
       have hk2 := (hb.block _ (zaw HBC14.out)).trans HBC14.out
       exact ⟨(zac hk 0).trans rfl, (zac hk 1).trans rfl, (zac hk2 1).trans rfl⟩⟩
      refine zdi (n := 9) (S := fun W => W.cell? ⟨w.heap.size, 0, none⟩ = some (.slice Y0 (rN y).length e0) ∧ W.cell? ⟨w.heap.size, 1, none⟩ = some (.slice Y1 (rD y).length e1) ∧ W.cell? ⟨bc, 1, none⟩ = some (.int .i64 (p.2 : Int))) (ds := [8]) #[false, false, false, false, false, false, false, false, false] (by kernel_rfl) rfl rfl (HSN.out _ HBw140.out) (fun hHeld => ?_); refine zcn lv16tab lv16bits (fun HT_ HW_ => ?_)
      refine take_ (i := 0) (N := some 59) (v := ?_) (a' := ?_) #[true, false, false, false, false, false, false, false, false] rfl rfl (zbp HT_.out HW_.out (by kernel_rfl)) (fun _ _ _ h => h) (Or.inl ⟨by rfl, ?_⟩) hHeld ?_ ?_
      rotate_left
      ·
       rintro w' ⟨s0, s1, s2⟩
       go_simp
       with_reducible rfl
      rotate_left
      ·
       simp only [Act.put, List.setIfInBounds_toArray, List.set_cons_zero, List.set_cons_succ, i64_w, i32_w]
       rfl
      refine pure_ (i := 1) (N := some 60) (v := ?_) (a' := ?_) #[true, true, false, false, false, false, false, false, false] rfl rfl (zas HT_.out (by kernel_rfl)) (fun _ _ _ h => h) (Or.inl ⟨by rfl, ?_⟩) ?_ ?_
      rotate_left
      ·
       intro w'
       go_simp
       with_reducible rfl
      rotate_left
      ·
       simp only [Act.put, List.setIfInBounds_toArray, List.set_cons_zero, List.set_cons_succ, i64_w, i32_w]
       rfl
      refine take_ (i := 2) (N := some 61) (v := ?_) (a' := ?_) #[true, true, true, false, false, false, false, false, false] rfl rfl (zbp HT_.out HW_.out (by kernel_rfl)) (fun _ _ _ h => h) (Or.inl ⟨by rfl, ?_⟩) hHeld ?_ ?_
      rotate_left
      ·
       rintro w' ⟨s0, s1, s2⟩
       go_simp
       with_reducible rfl
      rotate_left
      ·
       simp only [Act.put, List.setIfInBounds_toArray, List.set_cons_zero, List.set_cons_succ, i64_w, i32_w]
       rfl
      refine one_ (i := 3) (N := some 62) #[true, true, true, true, false, false, false, false, false] rfl rfl (zb6 HT_.out (by kernel_rfl)) (by decide) (fun K hK => ?_)
      refine goes_ Tryz.func18 (by kernel_rfl) rfl #[.int .i64 (p.2 : Int)] (by rfl) rfl rfl (by (try simp only [List.map_toArray, List.map_cons, List.map_nil]); first | done | rfl) ?_
      refine (t_IntN p.2 (by have := HPG.out; omega) _).mono ?_
      rintro e w15 ⟨I0, j0, I1, j1, rfl, hi, hb⟩
      have HI15 := Aside0.mk hi.rt
      clear hi
      refine ⟨_, rfl, ?_⟩
      have HB15 : Aside0 (Below w14.heap.size w14 w15) := ⟨zab HBw140.out hb⟩
      clear hb
      refine hK.out _ _ (HSN.out _ HB15.out) (fun hHeld => ?_)
      clear hK K
      refine norm_ (a' := ?_) ?_ ?_
      rotate_left
      ·
       show Act.put _ (some 62) _ = _
       simp only [Act.put, List.setIfInBounds_toArray, List.set_cons_zero, List.set_cons_succ, i64_w, i32_w]
       rfl
      refine one_ (i := 4) (N := some 63) #[true, true, true, true, true, false, false, false, false] rfl rfl (zb6 HT_.out (by kernel_rfl)) (by decide) (fun K hK => ?_)
      refine goes_ Tryz.func78 (by kernel_rfl) rfl #[.agg #[.slice Y0 (rN y).length e0, .slice Y1 (rD y).length e1], .agg #[.slice I0 _ j0, .slice I1 _ j1]] (by rfl) rfl rfl (by (try simp only [List.map_toArray, List.map_cons, List.map_nil]); first | done | rfl) ?_
      refine (t_Sub (HRY14.out.below HB15.out) HI15.out HBY.out (bdN (x := p.2) (by have := HPG.out; omega)) (by have := HIB.out; omega) HLE.out).mono ?_
      rintro e w16 ⟨V0, h0, V1, h1, rfl, hv, hb⟩
      have HV16 := Aside0.mk hv
      clear hv
      refine ⟨_, rfl, ?_⟩
      have HB16 : Aside0 (Below w14.heap.size w14 w16) := ⟨zab HB15.out hb⟩
      clear hb
      refine hK.out _ _ (HSN.out _ HB16.out) (fun hHeld => ?_)
      clear hK K
      refine norm_ (a' := ?_) ?_ ?_
      rotate_left
      ·
       show Act.put _ (some 63) _ = _
       simp only [Act.put, List.setIfInBounds_toArray, List.set_cons_zero, List.set_cons_succ, i64_w, i32_w]
       rfl
      refine pure_ (i := 5) (N := some 58) (v := ?_) (a' := ?_) #[true, true, true, true, true, true, false, false, false] rfl rfl (zas HT_.out (by kernel_rfl)) (fun _ _ _ h => h) (Or.inl ⟨by rfl, ?_⟩) ?_ ?_
      rotate_left
      ·
       intro w'
       go_simp
       with_reducible rfl
      rotate_left
      ·
       simp only [Act.put, List.setIfInBounds_toArray, List.set_cons_zero, List.set_cons_succ, i64_w, i32_w]
       rfl
      refine pure_ (i := 6) (N := some 64) (v := ?_) (a' := ?_) #[true, true, true, true, true, true, true, false, false] rfl rfl (zas HT_.out (by kernel_rfl)) (fun _ _ _ h => h) (Or.inl ⟨by rfl, ?_⟩) ?_ ?_
      rotate_left
      ·
       intro w'
       go_simp
       with_reducible rfl
      rotate_left
      ·
       simp only [Act.put, List.setIfInBounds_toArray, List.set_cons_zero, List.set_cons_succ, i64_w, i32_w]
       rfl
      refine pure_ (i := 7) (N := some 65) (v := ?_) (a' := ?_) #[true, true, true, true, true, true, true, true, false] rfl rfl (zas HT_.out (by kernel_rfl)) (fun _ _ _ h => h) (Or.inl ⟨by rfl, ?_⟩) ?_ ?_
      rotate_left
      ·
       intro w'
       go_simp
       with_reducible rfl
      rotate_left
      ·
       simp only [Act.put, List.setIfInBounds_toArray, List.set_cons_zero, List.set_cons_succ, i64_w, i32_w]
       rfl
      refine last_ (i := 8) (N := none) #[true, true, true, true, true, true, true, true, true] rfl rfl (zb6 HT_.out (by kernel_rfl)) (by decide) (fun K hK => ?_)
      have HB1416 := HB16.out
      have HBX16 := Aside0.mk ((HB1416.block _ (zaw HBX14.out)).trans HBX14.out)
      have c0 : w16.cell? ⟨w.heap.size, 0, none⟩ = some (.slice Y0 (rN y).length e0) := (zac HBX16.out 0).trans rfl
      have c1 : w16.cell? ⟨w.heap.size, 1, none⟩ = some (.slice Y1 (rD y).length e1) := (zac HBX16.out 1).trans rfl
      have c2_ := zaj HBX16.out 0
      have c3 := zaj HBX16.out 1
      refine skip_ (w1 := ?_) (by rfl) rfl ?_ ?_
      rotate_left
      ·
       go_simp
       rfl
      refine hK.out _ _ ?_
      clear hK K c0 c1 c2_ c3
      refine done_ (zc7 HT_.out (by kernel_rfl)) ?_
      have hn := HN7.out
      have hs7 := HB714.out.size
      have hs15 : w14.heap.size ≤ w15.heap.size := HB15.out.size
      have hV := (HV16.out.mono (Q := fun k => k ≠ w.heap.size ∧ k ≠ w.heap.size + 1 ∧ k ≠ b8) (fun k hk => by have hk : w15.heap.size ≤ k := hk; omega))
      have HRYz := Aside0.mk ((hV.far (p := ⟨w.heap.size, 0, none⟩) (fun k hk => hk.1) (.slice V0 (rN (y - (p.2 : Rat))).length h0)).far (p := ⟨w.heap.size, 1, none⟩) (fun k hk => hk.1) (.slice V1 (rD (y - (p.2 : Rat))).length h1))
      have HRAz := Aside0.mk (((HRZ14v.out.kp3 (Kp3.of_below HB1416) (fun k hk => hk.2)).far (p := ⟨w.heap.size, 0, none⟩) (fun k hk => hk.2.1) (.slice V0 (rN (y - (p.2 : Rat))).length h0)).far (p := ⟨w.heap.size, 1, none⟩) (fun k hk => hk.2.1) (.slice V1 (rD (y - (p.2 : Rat))).length h1))
      have HRFz := Aside0.mk (((HFu14.out.kp3 (Kp3.of_below HB1416) (fun k hk => hk.2)).far (p := ⟨w.heap.size, 0, none⟩) (fun k hk => hk.2.1) (.slice V0 (rN (y - (p.2 : Rat))).length h0)).far (p := ⟨w.heap.size, 1, none⟩) (fun k hk => hk.2.1) (.slice V1 (rD (y - (p.2 : Rat))).length h1))
      have HBXz := Aside0.mk (zbb (zbb HBX16.out 0 (.slice V0 (rN (y - (p.2 : Rat))).length h0) rfl) 1 (.slice V1 (rD (y - (p.2 : Rat))).length h1) rfl)
      have hg13 : w.heap.size + 2 ≤ g13 := by have := HGEg13.out; have := HB79.out.size; omega
      have hoth : ∀ k, k ≠ w.heap.size → ((w16.setCell ⟨w.heap.size, 0, none⟩ (.slice V0 (rN (y - (p.2 : Rat))).length h0)).setCell ⟨w.heap.size, 1, none⟩ (.slice V1 (rD (y - (p.2 : Rat))).length h1)).heap[k]? = w16.heap[k]? := fun k hk => (Below.heap_setCell _ ⟨w.heap.size, 1, none⟩ _ k hk).trans (Below.heap_setCell _ ⟨w.heap.size, 0, none⟩ _ k hk)
      have HBRz := Aside0.mk ((hoth (w.heap.size + 1) (by omega)).trans ((HB1416.block _ (zaw HBR14.out)).trans HBR14.out))
      have HBAz := Aside0.mk ((hoth b8 (by omega)).trans ((HB1416.block _ (zaw HBA14.out)).trans HBA14.out))
      have HBCz := Aside0.mk ((hoth bc (by omega)).trans ((HB1416.block _ (zaw HBC14.out)).trans HBC14.out))
      have HBFz := Aside0.mk ((hoth g13 (by omega)).trans ((HB1416.block _ (zaw HX1314.out)).trans HX1314.out))
      have HKPz := Aside0.mk (((HKP14.out.trans (Kp3.of_below HB1416)).set ⟨w.heap.size, 0, none⟩ (.inl rfl) (.slice V0 (rN (y - (p.2 : Rat))).length h0)).set ⟨w.heap.size, 1, none⟩ (.inl rfl) (.slice V1 (rD (y - (p.2 : Rat))).length h1))
      have HRB := Aside0.mk (HBY.out.sub (bdN (x := p.2) (by have := HPG.out; omega)) HLE.out)
      clear hV hoth
      generalize (w16.setCell ⟨w.heap.size, 0, none⟩ (.slice V0 (rN (y - (p.2 : Rat))).length h0)).setCell ⟨w.heap.size, 1, none⟩ (.slice V1 (rD (y - (p.2 : Rat))).length h1) = wz at HRYz HRAz HRFz HBXz HBRz HBAz HBCz HBFz HKPz ⊢
      have HBD8 : Aside0 (b8 ≠ bc ∧ b8 ≠ w.heap.size ∧ b8 ≠ w.heap.size + 1 ∧ b8 ≠ g13) := ⟨by have := HGEg13.out; have := HB79.out.size; omega⟩
      have c0 : wz.cell? ⟨bc, 1, none⟩ = some (.int .i64 (p.2 : Int)) := (zac HBCz.out 1).trans rfl
      clear hn hs7 hs15 hg13 HSN HBw140 HRY14 HRY14v HRZ14v HFu14 HX1114 HX1314 HBR14 HBA14 HBC14 HBX14 HBX16 HKP14 HSh14
      by_cases hc0 : 0 < p.2
      ·
       have d7 : decide ((p.2 : Int) > 0) = true := decide_eq_true (by omega)
       have c1 : wz.cell? ⟨g13, 0, none⟩ = some (.slice f0_ (rN ((p.2 : Rat) / (p.1 : Rat))).length f1_) := (zac HBFz.out 0).trans rfl
       have c2_ : wz.cell? ⟨g13, 1, none⟩ = some (.slice f2_ (rD ((p.2 : Rat) / (p.1 : Rat))).length f3_) := (zac HBFz.out 1).trans rfl
       have c3 : wz.cell? ⟨b8, 0, none⟩ = some (.slice Z0 (rN a).length f0) := (zac HBAz.out 0).trans rfl
       have c4 : wz.cell? ⟨b8, 1, none⟩ = some (.slice Z1 (rD a).length f1) := (zac HBAz.out 1).trans rfl
       have c5 := zaj HBAz.out 0
       have c6 := zaj HBAz.out 1
       have HC0 := Aside0.mk hc0
       clear hc0
       go_upto_region 19 with fail
       all_goals first | (exfalso; first | (have h_ := of_decide_eq_true d7; omega) | (have h_ := of_decide_eq_false d7; omega)) | skip
       have hc0 := HC0.out
       clear c0 c1 c2_ c3 c4 c5 c6 d7 HRAz
       have HBD := HBD8.out
       have hoth : ∀ k, k ≠ b8 → ((wz.setCell ⟨b8, 0, none⟩ (.slice f0_ (rN ((p.2 : Rat) / (p.1 : Rat))).length f1_)).setCell ⟨b8, 1, none⟩ (.slice f2_ (rD ((p.2 : Rat) / (p.1 : Rat))).length f3_)).heap[k]? = wz.heap[k]? := fun k hk => (Below.heap_setCell _ ⟨b8, 1, none⟩ _ k hk).trans (Below.heap_setCell _ ⟨b8, 0, none⟩ _ k hk)
       have HRYy := Aside0.mk ((HRYz.out.far (p := ⟨b8, 0, none⟩) (fun k hk => hk.2.2) (.slice f0_ (rN ((p.2 : Rat) / (p.1 : Rat))).length f1_)).far (p := ⟨b8, 1, none⟩) (fun k hk => hk.2.2) (.slice f2_ (rD ((p.2 : Rat) / (p.1 : Rat))).length f3_))
       have HRAy := Aside0.mk ((HRFz.out.far (p := ⟨b8, 0, none⟩) (fun k hk => hk.2.2.2) (.slice f0_ (rN ((p.2 : Rat) / (p.1 : Rat))).length f1_)).far (p := ⟨b8, 1, none⟩) (fun k hk => hk.2.2.2) (.slice f2_ (rD ((p.2 : Rat) / (p.1 : Rat))).length f3_))
       have HBAy := Aside0.mk (zbb (zbb HBAz.out 0 (.slice f0_ (rN ((p.2 : Rat) / (p.1 : Rat))).length f1_) rfl) 1 (.slice f2_ (rD ((p.2 : Rat) / (p.1 : Rat))).length f3_) rfl)
       have HBXy := Aside0.mk ((hoth w.heap.size (by omega)).trans HBXz.out)
       have HBRy := Aside0.mk ((hoth (w.heap.size + 1) (by omega)).trans HBRz.out)
       have HBCy := Aside0.mk ((hoth bc (by omega)).trans HBCz.out)
       have HKPy := Aside0.mk ((HKPz.out.set ⟨b8, 0, none⟩ (.inr (.inr (.inl rfl))) (.slice f0_ (rN ((p.2 : Rat) / (p.1 : Rat))).length f1_)).set ⟨b8, 1, none⟩ (.inr (.inr (.inl rfl))) (.slice f2_ (rD ((p.2 : Rat) / (p.1 : Rat))).length f3_))
       clear hoth HBD HRYz HRFz HBAz HBXz HBRz HBCz HKPz HBFz
       generalize (wz.setCell ⟨b8, 0, none⟩ (.slice f0_ (rN ((p.2 : Rat) / (p.1 : Rat))).length f1_)).setCell ⟨b8, 1, none⟩ (.slice f2_ (rD ((p.2 : Rat) / (p.1 : Rat))).length f3_) = wy at HRYy HRAy HBAy HBXy HBRy HBCy HKPy ⊢
       by_cases hz : y - (p.2 : Rat) = 0
       ·
        have d8 : (((rN (y - (p.2 : Rat))).length : Int) == 0) = true := beq_iff_eq.mpr (by have := (rN_nil HRB.out.1).2 hz; omega)
        have hL2 : ((p.2 : Rat) / (p.1 : Rat)) = levR m x := by
         have h := HL.out
         rw [if_pos hz] at h
         rw [if_pos hc0] at h
         exact h
        have HLF := Aside0.mk hL2
        have q0 : wy.cell? ⟨bc, 0, none⟩ = some (.int .i64 (p.1 : Int)) := (zac HBCy.out 0).trans rfl
        have q1 : wy.cell? ⟨w.heap.size, 0, none⟩ = some (.slice V0 (rN (y - (p.2 : Rat))).length h0) := (zac HBXy.out 0).trans rfl
        have q2 : wy.cell? ⟨b8, 0, none⟩ = some (.slice f0_ (rN ((p.2 : Rat) / (p.1 : Rat))).length f1_) := (zac HBAy.out 0).trans rfl
        have q3 : wy.cell? ⟨b8, 1, none⟩ = some (.slice f2_ (rD ((p.2 : Rat) / (p.1 : Rat))).length f3_) := (zac HBAy.out 1).trans rfl
        have q4 : wy.cell? ⟨w.heap.size + 1, 0, none⟩ = some (.slice none 0 0) := (zac HBRy.out 0).trans rfl
        have q5 : wy.cell? ⟨w.heap.size + 1, 1, none⟩ = some (.slice none 0 0) := (zac HBRy.out 1).trans rfl
        have q6 := zaj HBRy.out 0
        have q7 := zaj HBRy.out 1
        have HSF := Aside0.mk ((HRAy.out.far (p := ⟨w.heap.size + 1, 0, none⟩) (fun k hk => hk.2.2.1) (.slice f0_ (rN ((p.2 : Rat) / (p.1 : Rat))).length f1_)).far (p := ⟨w.heap.size + 1, 1, none⟩) (fun k hk => hk.2.2.1) (.slice f2_ (rD ((p.2 : Rat) / (p.1 : Rat))).length f3_))
        have HBF := Aside0.mk (zbb (zbb HBRy.out 0 (.slice f0_ (rN ((p.2 : Rat) / (p.1 : Rat))).length f1_) rfl) 1 (.slice f2_ (rD ((p.2 : Rat) / (p.1 : Rat))).length f3_) rfl)
        have HKF := Aside0.mk ((HKPy.out.set ⟨w.heap.size + 1, 0, none⟩ (.inr (.inl rfl)) (.slice f0_ (rN ((p.2 : Rat) / (p.1 : Rat))).length f1_)).set ⟨w.heap.size + 1, 1, none⟩ (.inr (.inl rfl)) (.slice f2_ (rD ((p.2 : Rat) / (p.1 : Rat))).length f3_))
        clear hL2 hz
        go_wp2_with fail
        refine bodyPost_ret (results_cell_row rfl _ _ (w.heap.size + 1) 29 _ (0, 0) _ rfl HBF.out Tryz.underlying29 rfl (by kernel_rfl)) rfl ?_
        refine ⟨_, _, rfl, ?_, ?_, HKF.out.below HB6.out (by have := HB6.out.size; omega) (Nat.le_refl _) (by omega) (by have := HN7.out; omega)⟩
        ·
         rw [← HLF.out]
         exact (HSF.out.mono (Q := fun k => w.heap.size ≤ k) (fun k hk => hk.1)).1
        ·
         rw [← HLF.out]
         exact (HSF.out.mono (Q := fun k => w.heap.size ≤ k) (fun k hk => hk.1)).2
       ·
        have d8 : (((rN (y - (p.2 : Rat))).length : Int) == 0) = false := beq_eq_false_iff_ne.mpr fun h => hz ((rN_nil HRB.out.1).1 (by omega))
        have hL2 : levP (y - (p.2 : Rat)) ((o : Rat) - (p.1 : Rat)) ((p.2 : Rat) / (p.1 : Rat)) (s.drop (i + 1)) = levR m x := by
         have h := HL.out
         rw [if_neg hz] at h
         rw [if_pos hc0] at h
         exact h
        have hon : ((o - p.1 : Nat) : Rat) = (o : Rat) - (p.1 : Rat) := by
         have h1 : ((o - p.1 + p.1 : Nat) : Rat) = (o : Rat) := by rw [Nat.sub_add_cancel HWO.out]
         rw [Rat.natCast_add] at h1
         grind
        have hwn : ((o - p.1 : Nat) : Rat) = wsum (s.drop (i + 1)) := by
         have h1 := HLV2.out.2.1
         have h2 : (o : Rat) = (p.1 : Rat) + wsum (s.drop (i + 1)) := h1
         rw [hon]
         grind
        rw [← hon] at hL2
        have HLF := Aside0.mk hL2
        have HWN := Aside0.mk hwn
        have q0 : wy.cell? ⟨bc, 0, none⟩ = some (.int .i64 (p.1 : Int)) := (zac HBCy.out 0).trans rfl
        have q1 : wy.cell? ⟨w.heap.size, 0, none⟩ = some (.slice V0 (rN (y - (p.2 : Rat))).length h0) := (zac HBXy.out 0).trans rfl
        have E1 : Aside0 (wrap64 ((i : Int) + 1) = ((i + 1 : Nat) : Int)) := ⟨by have := HIB.out; unfold wrap64; omega⟩
        have E2 : Aside0 (wrap64 ((o : Int) - (p.1 : Int)) = ((o - p.1 : Nat) : Int)) := ⟨by have := HWO.out; have := HO32.out; unfold wrap64; omega⟩
        clear hL2 hz hon hwn
        go_wp2_with fail
        go_roundg g1
        case rel => exact ⟨i + 1, o - p.1, y - (p.2 : Rat), ((p.2 : Rat) / (p.1 : Rat)), V0, h0, V1, h1, f0_, f1_, f2_, f3_, by rw [E2.out], by rw [E1.out], ⟨by have := HI.out; omega⟩, HKPy, HBXy, HBRy, HBAy, HRYy, HRAy, ⟨HRB.out.le (by omega), bdFul p (by have := HPG.out; omega) (by have := HPG.out; omega) HPG.out.1⟩, ⟨by have := HO32.out; omega, HWN.out, HLF.out⟩⟩
        case measure => omega
      ·
       have d7 : decide ((p.2 : Int) > 0) = false := decide_eq_false (by omega)
       go_upto_region 19 with fail
       all_goals first | (exfalso; first | (have h_ := of_decide_eq_true d7; omega) | (have h_ := of_decide_eq_false d7; omega)) | skip
       clear c0 d7
       by_cases hz : y - (p.2 : Rat) = 0
       ·
        have d8 : (((rN (y - (p.2 : Rat))).length : Int) == 0) = true := beq_iff_eq.mpr (by have := (rN_nil HRB.out.1).2 hz; omega)
        have hL2 : a = levR m x := by
         have h := HL.out
         rw [if_pos hz] at h
         rw [if_neg hc0] at h
         exact h
        have HLF := Aside0.mk hL2
        have q0 : wz.cell? ⟨bc, 0, none⟩ = some (.int .i64 (p.1 : Int)) := (zac HBCz.out 0).trans rfl
        have q1 : wz.cell? ⟨w.heap.size, 0, none⟩ = some (.slice V0 (rN (y - (p.2 : Rat))).length h0) := (zac HBXz.out 0).trans rfl
        have q2 : wz.cell? ⟨b8, 0, none⟩ = some (.slice Z0 (rN a).length f0) := (zac HBAz.out 0).trans rfl
        have q3 : wz.cell? ⟨b8, 1, none⟩ = some (.slice Z1 (rD a).length f1) := (zac HBAz.out 1).trans rfl
        have q4 : wz.cell? ⟨w.heap.size + 1, 0, none⟩ = some (.slice none 0 0) := (zac HBRz.out 0).trans rfl
        have q5 : wz.cell? ⟨w.heap.size + 1, 1, none⟩ = some (.slice none 0 0) := (zac HBRz.out 1).trans rfl
        have q6 := zaj HBRz.out 0
        have q7 := zaj HBRz.out 1
        have HSF := Aside0.mk ((HRAz.out.far (p := ⟨w.heap.size + 1, 0, none⟩) (fun k hk => hk.2.2.1) (.slice Z0 (rN a).length f0)).far (p := ⟨w.heap.size + 1, 1, none⟩) (fun k hk => hk.2.2.1) (.slice Z1 (rD a).length f1))
        have HBF := Aside0.mk (zbb (zbb HBRz.out 0 (.slice Z0 (rN a).length f0) rfl) 1 (.slice Z1 (rD a).length f1) rfl)
        have HKF := Aside0.mk ((HKPz.out.set ⟨w.heap.size + 1, 0, none⟩ (.inr (.inl rfl)) (.slice Z0 (rN a).length f0)).set ⟨w.heap.size + 1, 1, none⟩ (.inr (.inl rfl)) (.slice Z1 (rD a).length f1))
        clear hL2 hz
        go_wp2_with fail
        refine bodyPost_ret (results_cell_row rfl _ _ (w.heap.size + 1) 29 _ (0, 0) _ rfl HBF.out Tryz.underlying29 rfl (by kernel_rfl)) rfl ?_
        refine ⟨_, _, rfl, ?_, ?_, HKF.out.below HB6.out (by have := HB6.out.size; omega) (Nat.le_refl _) (by omega) (by have := HN7.out; omega)⟩
        ·
         rw [← HLF.out]
         exact (HSF.out.mono (Q := fun k => w.heap.size ≤ k) (fun k hk => hk.1)).1
        ·
         rw [← HLF.out]
         exact (HSF.out.mono (Q := fun k => w.heap.size ≤ k) (fun k hk => hk.1)).2
       ·
        have d8 : (((rN (y - (p.2 : Rat))).length : Int) == 0) = false := beq_eq_false_iff_ne.mpr fun h => hz ((rN_nil HRB.out.1).1 (by omega))
        have hL2 : levP (y - (p.2 : Rat)) ((o : Rat) - (p.1 : Rat)) a (s.drop (i + 1)) = levR m x := by
         have h := HL.out
         rw [if_neg hz] at h
         rw [if_neg hc0] at h
         exact h
        have hon : ((o - p.1 : Nat) : Rat) = (o : Rat) - (p.1 : Rat) := by
         have h1 : ((o - p.1 + p.1 : Nat) : Rat) = (o : Rat) := by rw [Nat.sub_add_cancel HWO.out]
         rw [Rat.natCast_add] at h1
         grind
        have hwn : ((o - p.1 : Nat) : Rat) = wsum (s.drop (i + 1)) := by
         have h1 := HLV2.out.2.1
         have h2 : (o : Rat) = (p.1 : Rat) + wsum (s.drop (i + 1)) := h1
         rw [hon]
         grind
        rw [← hon] at hL2
        have HLF := Aside0.mk hL2
        have HWN := Aside0.mk hwn
        have q0 : wz.cell? ⟨bc, 0, none⟩ = some (.int .i64 (p.1 : Int)) := (zac HBCz.out 0).trans rfl
        have q1 : wz.cell? ⟨w.heap.size, 0, none⟩ = some (.slice V0 (rN (y - (p.2 : Rat))).length h0) := (zac HBXz.out 0).trans rfl
        have E1 : Aside0 (wrap64 ((i : Int) + 1) = ((i + 1 : Nat) : Int)) := ⟨by have := HIB.out; unfold wrap64; omega⟩
        have E2 : Aside0 (wrap64 ((o : Int) - (p.1 : Int)) = ((o - p.1 : Nat) : Int)) := ⟨by have := HWO.out; have := HO32.out; unfold wrap64; omega⟩
        clear hL2 hz hon hwn
        go_wp2_with fail
        go_roundg g1
        case rel => exact ⟨i + 1, o - p.1, y - (p.2 : Rat), a, V0, h0, V1, h1, Z0, f0, Z1, f1, by rw [E2.out], by rw [E1.out], ⟨by have := HI.out; omega⟩, HKPz, HBXz, HBRz, HBAz, HRYz, HRAz, ⟨HRB.out.le (by omega), HBA1.out⟩, ⟨by have := HO32.out; omega, HWN.out, HLF.out⟩⟩
        case measure => omega
end Go.Proofs.YthiicmanfpmipaaGreatDoor.P
end
section
namespace Go.Proofs.YthiicmanfpmipaaGreatDoor.P
open Go.RowKit Go.Proofs.YthiicmanfpmipaaGreatDoorW.PrintWords Go.Proofs.YthiicmanfpmipaaGreatDoorW.PrintLast Go.Proofs.YthiicmanfpmipaaGreatDoorW.PrintMore
attribute [local go_sem] zci zcj zcs zcr zb9 zca zcg zch
def fill_level.f (k : Nat) (l0_0 l0_1 : List Int) (l1 : List S90) : Option (List Int × List Int) := lvF l0_0 l0_1 l1
theorem fill_level.calls (k : Nat) (A0_0 : Option Addr) (c0_0 : Nat) (l0_0 : List Int) (A0_1 : Option Addr) (c0_1 : Nat) (l0_1 : List Int) (A1 : Option Addr) (c1 : Nat) (l1 : List S90) (r1 r2 : List Int) (w : World) (hr0_0 : Kd.C (Kd.int .u64) w A0_0 l0_0.length l0_0) (hc0_0 : l0_0.length ≤ c0_0) (hr0_1 : Kd.C (Kd.int .u64) w A0_1 l0_1.length l0_1) (hc0_1 : l0_1.length ≤ c0_1) (hr1 : Kd.C k90 w A1 l1.length l1) (hc1 : l1.length ≤ c1) (h : fill_level.f k l0_0 l0_1 l1 = some (r1, r2)) :
  Calls Tryz.prog 39 #[.agg #[.slice A0_0 l0_0.length c0_0, .slice A0_1 l0_1.length c0_1], .slice A1 l1.length c1] w fun e w' => ∃ v0_ v1_ : Value, e = .returned (.agg #[v0_, v1_]) ∧ Kd.V (Kd.int .u64) 82 w' w.heap.size (fun k_ => (w.heap.size ≤ k_)) v0_ r1 ∧ Kd.V (Kd.int .u64) 82 w' w.heap.size (fun k_ => (w.heap.size ≤ k_)) v1_ r2 ∧ Below w.heap.size w w' :=
 level_ok A0_0 c0_0 l0_0 A0_1 c0_1 l0_1 A1 c1 l1 r1 r2 w hr0_0 hc0_0 hr0_1 hc0_1 hr1 h
def zbu.l0 : Nat → List (S29) → List (S90) → Int → Int → List Int → List Int → Option ((List (S29)) × Int)
 | 0, _, _, _, _, _, _ => none
 | k + 1, x11, x27, x28, x29, x336000, x336001 => if x29 < x28 then (if 0 ≤ x29 then (if x29 < (x27.length : Int) then ((zc4.f k ((rd_T90 x27 x29).f0) ((rd_T90 x27 x29).f1) x336000 x336001).bind fun bt338 => (if x11.length < 2932031007402 then (zbu.l0 k (x11 ++ [(⟨bt338.1, bt338.2⟩ : S29)]) x27 x28 (wrap64 (x29 + 1)) x336000 x336001) else (none))) else (none)) else (none)) else (some (x11, 0))
def zbu.f (k : Nat) (l0_0 : List Int) (l0_1 : List Int) (l1 : List Int) (l2 : List Int) : Option ((List (S29)) × Int) := (zc0.f k l0_0 l0_1 l1 l2).bind fun bt325 => (if bt325.2 = 0 then ((fill_level.f k l0_0 l0_1 bt325.1).bind fun bt329 => (zbu.l0 k ([] : List (S29)) bt325.1 (bt325.1.length : Int) 0 bt329.1 bt329.2)) else (some (([] : List (S29)), bt325.2)))
theorem zbu.calls (k : Nat) (A0_0 : Option Addr) (c0_0 : Nat) (l0_0 : List Int) (A0_1 : Option Addr) (c0_1 : Nat) (l0_1 : List Int) (A1 : Option Addr) (c1 : Nat) (l1 : List Int) (A2 : Option Addr) (c2 : Nat) (l2 : List Int) (r1 : List (S29)) (r2 : Int) (w : World) (hr0_0 : Kd.C (Kd.int .u64) w A0_0 l0_0.length l0_0) (hc0_0 : l0_0.length ≤ c0_0) (hr0_1 : Kd.C (Kd.int .u64) w A0_1 l0_1.length l0_1) (hc0_1 : l0_1.length ≤ c0_1) (hr1 : Kd.C (Kd.int .i64) w A1 l1.length l1) (hc1 : l1.length ≤ c1) (hr2 : Kd.C (Kd.int .i64) w A2 l2.length l2) (hc2 : l2.length ≤ c2) (h : zbu.f k l0_0 l0_1 l1 l2 = some (r1, r2)) :
  Calls Tryz.prog 16 #[.agg #[.slice A0_0 l0_0.length c0_0, .slice A0_1 l0_1.length c0_1], .slice A1 l1.length c1, .slice A2 l2.length c2] w fun e w' => ∃ v0_ : Value, e = .returned (.tuple #[v0_, .int .i64 r2]) ∧ Kd.N k29 29 w' w.heap.size (fun k_ => (w.heap.size ≤ k_)) v0_ r1 ∧ Below w.heap.size w w' := by
 have hu29 := Tryz.underlying29
 have hu90 := Tryz.underlying90
 have HR0_0 := zA hr0_0
 have HC0_0 := zA hc0_0
 clear hr0_0 hc0_0
 have HR0_1 := zA hr0_1
 have HC0_1 := zA hc0_1
 clear hr0_1 hc0_1
 have HR1 := zA hr1
 have HC1 := zA hc1
 clear hr1 hc1
 have HR2 := zA hr2
 have HC2 := zA hc2
 clear hr2 hc2
 have HB := zA (Below.refl w.heap.size w)
 have H : ((zc0.f k l0_0 l0_1 l1 l2).bind fun bt325 => (if bt325.2 = 0 then ((fill_level.f k l0_0 l0_1 bt325.1).bind fun bt329 => (zbu.l0 k ([] : List (S29)) bt325.1 (bt325.1.length : Int) 0 bt329.1 bt329.2)) else (some (([] : List (S29)), bt325.2)))) = some (r1, r2) := h
 clear h
 replace H := zO H
 obtain ⟨⟨t325, t328⟩, A40, H⟩ := H
 try dsimp only at H
 have A4 := zA A40
 clear A40
 by_cases c5 : t328 = 0
 ·
  rw [if_pos c5] at H
  have c5b0 : (t328 == 0) = true := beq_iff_eq.mpr c5
  have c5b1 : (t328 != 0) = false := bne_eq_false_iff_eq.mpr c5
  clear c5
  replace H := zO H
  obtain ⟨⟨t329, t332⟩, A60, H⟩ := H
  try dsimp only at H
  have A6 := zA A60
  clear A60
  have H' := zA H
  clear H
  go_enter Tryz.func16, Tryz.ntmps16
  go_wp2_with (first | ((with_reducible refine za4 (N := 3) rfl ?_); refine zba ?hg (N := 3) ?hd (cs := #[.slice A0_0 l0_0.length c0_0, .slice A0_1 l0_1.length c0_1]) (t := 29) ?hr ?_; (case hd => rfl); (case hg => rfl); (case hr => first | (go_simp; done) | (go_simp; rfl)); intro gb324 hg w7 hbox hb; have n0_ := zA (zab (zB HB) hb); have n1_ := zA (hbox); have n3_ := zA ((by rw [hg]; exact (za (zB HB)) : w.heap.size ≤ gb324)); clear HB; have HB := n0_; have BK324 := n1_; have GE324 := n3_; clear n0_ n1_ n3_ hb hbox hg; have hcz8_0 : w7.cell? ⟨gb324, 0, none⟩ = some (.slice A0_0 l0_0.length c0_0) := (zac BK324.out 0).trans rfl; have hcz8_1 : w7.cell? ⟨gb324, 1, none⟩ = some (.slice A0_1 l0_1.length c0_1) := (zac BK324.out 1).trans rfl; have hfz8_0 := zaj BK324.out 0; have hfz8_1 := zaj BK324.out 1) | ((with_reducible refine zad (f := 38) rfl ?_); refine zaz (some 18) rfl rfl Tryz.func38 (by kernel_rfl) rfl #[.agg #[.slice A0_0 l0_0.length c0_0, .slice A0_1 l0_1.length c0_1], .slice A1 l1.length c1, .slice A2 l2.length c2] rfl (zE) ?_; (with_reducible refine (zc0.calls k _ _ l0_0 _ _ l0_1 _ _ l1 _ _ l2 t325 t328 _ ?side1 ?side2 ?side3 ?side4 ?side5 ?side6 ?side7 ?side8 A4.out).mono ?_); (case side1 => exact zJ (Kd.zax HR0_0.out HB.out)); (case side2 => exact HC0_0.out); (case side3 => exact zJ (Kd.zax HR0_1.out HB.out)); (case side4 => exact HC0_1.out); (case side5 => exact zJ (Kd.zax HR1.out HB.out)); (case side6 => exact HC1.out); (case side7 => exact zJ (Kd.zax HR2.out HB.out)); (case side8 => exact HC2.out); rintro e w9 ⟨v326, rfl, ho0, hb⟩; refine ⟨_, rfl, ?_⟩; have n0_ := zA (Kd.za6 (Kd.zaq (ok' := fun k_ => (w.heap.size ≤ k_) ∧ k_ ≠ gb324) ho0 (fun k_ hk_ => ⟨(Nat.le_trans (za (zB HB)) hk_), (Kd.freshB (g := gb324) (o := .cells #[.slice A0_0 l0_0.length c0_0, .slice A0_1 l0_1.length c0_1] 29 (0, 0)) (zK BK324) k_ hk_)⟩)) (za (zB HB))); have n1_ := zA (zae (g := gb324) (o := .cells #[.slice A0_0 l0_0.length c0_0, .slice A0_1 l0_1.length c0_1] 29 (0, 0)) (zK BK324) hb); have n2_ := zA (zab (zB HB) hb); clear BK324 HB; have HO327 := n0_; have BK324 := n1_; have HB := n2_; clear n0_ n1_ n2_; (try clear hb); (try clear hb2); (try clear hk); (try clear hi); (try clear ho0); have hcz10_0 : w9.cell? ⟨gb324, 0, none⟩ = some (.slice A0_0 l0_0.length c0_0) := (zac BK324.out 0).trans rfl; have hcz10_1 : w9.cell? ⟨gb324, 1, none⟩ = some (.slice A0_1 l0_1.length c0_1) := (zac BK324.out 1).trans rfl; have hfz10_0 := zaj BK324.out 0; have hfz10_1 := zaj BK324.out 1; obtain ⟨Ao11, co11, eo11⟩ := Kd.za9 HO327.out; subst eo11) | ((with_reducible refine zad (f := 39) rfl ?_); refine zaz (some 26) rfl rfl Tryz.func39 (by kernel_rfl) rfl #[.agg #[.slice A0_0 l0_0.length c0_0, .slice A0_1 l0_1.length c0_1], .slice Ao11 t325.length co11] rfl (zE) ?_; (with_reducible refine (fill_level.calls k _ _ l0_0 _ _ l0_1 _ _ t325 t329 t332 _ ?side1 ?side2 ?side3 ?side4 ?side5 ?side6 A6.out).mono ?_); (case side1 => exact zJ (Kd.zax HR0_0.out HB.out)); (case side2 => exact HC0_0.out); (case side3 => exact zJ (Kd.zax HR0_1.out HB.out)); (case side4 => exact HC0_1.out); (case side5 => exact zJ (Kd.zan HO327.out).2.2); (case side6 => exact (Kd.zan HO327.out).2.1); rintro e w12 ⟨v330, v333, rfl, ho0, ho1, hb⟩; refine ⟨_, rfl, ?_⟩; have n0_ := zA (Kd.za1 (zV HO327) hb); have n1_ := zA (Kd.za6 (Kd.zaq (ok' := fun k_ => (w.heap.size ≤ k_) ∧ k_ ≠ gb324) ho0 (fun k_ hk_ => ⟨(Nat.le_trans (za (zB HB)) hk_), (Kd.freshB (g := gb324) (o := .cells #[.slice A0_0 l0_0.length c0_0, .slice A0_1 l0_1.length c0_1] 29 (0, 0)) (zK BK324) k_ hk_)⟩)) (za (zB HB))); have n2_ := zA (Kd.za6 (Kd.zaq (ok' := fun k_ => (w.heap.size ≤ k_) ∧ k_ ≠ gb324) ho1 (fun k_ hk_ => ⟨(Nat.le_trans (za (zB HB)) hk_), (Kd.freshB (g := gb324) (o := .cells #[.slice A0_0 l0_0.length c0_0, .slice A0_1 l0_1.length c0_1] 29 (0, 0)) (zK BK324) k_ hk_)⟩)) (za (zB HB))); have n3_ := zA (zae (g := gb324) (o := .cells #[.slice A0_0 l0_0.length c0_0, .slice A0_1 l0_1.length c0_1] 29 (0, 0)) (zK BK324) hb); have n4_ := zA (zab (zB HB) hb); clear HO327 BK324 HB; have HO327 := n0_; have HO331 := n1_; have HO334 := n2_; have BK324 := n3_; have HB := n4_; clear n0_ n1_ n2_ n3_ n4_; (try clear hb); (try clear hb2); (try clear hk); (try clear hi); (try clear ho0); (try clear ho1)) | ((with_reducible refine za4 (N := 10) rfl ?_); refine zba ?hg (N := 10) ?hd (cs := #[.slice none 0 0, .slice none 0 0]) (t := 29) ?hr ?_; (case hd => rfl); (case hg => rfl); (case hr => first | (go_simp; done) | (go_simp; rfl)); intro gb335 hg w13 hbox hb; have n0_ := zA (Kd.za1 (Kd.zdf (zV HO327) gb335 (Nat.le_of_eq hg.symm)) hb); have n1_ := zA (Kd.za1 (Kd.zdf (zV HO331) gb335 (Nat.le_of_eq hg.symm)) hb); have n2_ := zA (Kd.za1 (Kd.zdf (zV HO334) gb335 (Nat.le_of_eq hg.symm)) hb); have n3_ := zA (zae (g := gb324) (o := .cells #[.slice A0_0 l0_0.length c0_0, .slice A0_1 l0_1.length c0_1] 29 (0, 0)) (zK BK324) hb); have n4_ := zA (zab (zB HB) hb); have n5_ := zA (hbox); have n7_ := zA ((by rw [hg]; exact (za (zB HB)) : w.heap.size ≤ gb335)); have n8_ := zA ((by rw [hg]; exact Nat.ne_of_lt (zaw (g := gb324) (o := .cells #[.slice A0_0 l0_0.length c0_0, .slice A0_1 l0_1.length c0_1] 29 (0, 0)) (zK BK324)) : gb324 ≠ gb335)); have n9_ := zA ((by rw [hg]; exact Nat.ne_of_gt (zaw (g := gb324) (o := .cells #[.slice A0_0 l0_0.length c0_0, .slice A0_1 l0_1.length c0_1] 29 (0, 0)) (zK BK324)) : gb335 ≠ gb324)); clear HO327 HO331 HO334 BK324 HB; have HO327 := n0_; have HO331 := n1_; have HO334 := n2_; have BK324 := n3_; have HB := n4_; have BK335 := n5_; have GE335 := n7_; have NB324_335 := n8_; have NB335_324 := n9_; clear n0_ n1_ n2_ n3_ n4_ n5_ n7_ n8_ n9_ hb hbox hg; obtain ⟨Ao14, co14, eo14⟩ := Kd.za9 HO331.out; subst eo14; have hnb15 := NB335_324.out; have hnc15 := NB324_335.out; have hcz16_0 : w13.cell? ⟨gb335, 0, none⟩ = some (.slice none 0 0) := (zac BK335.out 0).trans rfl; have hcz16_1 : w13.cell? ⟨gb335, 1, none⟩ = some (.slice none 0 0) := (zac BK335.out 1).trans rfl; have hfz16_0 := zaj BK335.out 0; have hfz16_1 := zaj BK335.out 1; obtain ⟨Ao17, co17, eo17⟩ := Kd.za9 HO334.out; subst eo17))
  go_loopg [11, 29] k (fun kq v11 v29 w' => ∃ (x11_1 : List (S29)) (x29_1 : Int), v29 = .int .i64 x29_1 ∧ Aside0 (zbu.l0 kq x11_1 t325 (t325.length : Int) x29_1 t329 t332 = some (r1, r2)) ∧ Aside0 (kq ≤ k) ∧ Aside0 (Kd.N k29 29 w' w.heap.size (fun k_ => (w.heap.size ≤ k_) ∧ k_ ≠ gb324 ∧ k_ ≠ gb335) v11 x11_1) ∧ Aside0 (Kd.V k90 90 w' w.heap.size (fun k_ => (w.heap.size ≤ k_) ∧ some k_ ≠ (v11 : Value).ownBlock ∧ k_ ≠ gb324 ∧ k_ ≠ gb335) (.slice Ao11 t325.length co11) t325) ∧ Aside0 (Kd.V (Kd.int .u64) 82 w' w.heap.size (fun k_ => (w.heap.size ≤ k_) ∧ some k_ ≠ (v11 : Value).ownBlock ∧ k_ ≠ gb324 ∧ k_ ≠ gb335) (.slice Ao14 t329.length co14) t329) ∧ Aside0 (Kd.V (Kd.int .u64) 82 w' w.heap.size (fun k_ => (w.heap.size ≤ k_) ∧ some k_ ≠ (v11 : Value).ownBlock ∧ k_ ≠ gb324 ∧ k_ ≠ gb335) (.slice Ao17 t332.length co17) t332) ∧ Aside0 (w'.heap[gb324]? = some (.cells #[(.slice A0_0 l0_0.length c0_0), (.slice A0_1 l0_1.length c0_1)] 29 (0, 0))) ∧ Aside0 (w'.heap[gb335]? = some (.cells #[(.slice Ao14 t329.length co14), (.slice Ao17 t332.length co17)] 29 (0, 0))) ∧ Aside0 (Below w.heap.size w w'))
  case atStart => exact ⟨(([] : List (S29))), (0), (zF), H', ⟨Nat.le_refl _⟩, ⟨by first | exact Kd.S_nil _ _ _ _ _ | exact Kd.N_nil _ _ _ _ _ | exact Kd.V_nil _ _ _ _ _ | exact Kd.Q_nil _ _ _ _ _ | exact Kd.R_nil _ _ _ _ _⟩, ⟨by (with_reducible repeat (first | apply Kd.zbi | apply Kd.zbk | apply Kd.zbn)); exact Kd.zaq (Kd.V_far (p := ⟨gb335, 1, none⟩) (Kd.V_far (p := ⟨gb335, 0, none⟩) (Kd.zaq HO327.out (fun k_ hk => (⟨hk, hk.2⟩ : _ ∧ k_ ≠ gb335))) (fun _ hk => hk.2) (.slice Ao14 t329.length co14)) (fun _ hk => hk.2) (.slice Ao17 t332.length co17)) (fun _ hk => ⟨hk.1.1.1, ⟨(by simp [Value.ownBlock]), ⟨hk.1.1.2, hk.1.2⟩⟩⟩)⟩, ⟨by (with_reducible repeat (first | apply Kd.zbi | apply Kd.zbk | apply Kd.zbn)); exact Kd.zaq (Kd.V_far (p := ⟨gb335, 1, none⟩) (Kd.V_far (p := ⟨gb335, 0, none⟩) (Kd.zaq HO331.out (fun k_ hk => (⟨hk, hk.2⟩ : _ ∧ k_ ≠ gb335))) (fun _ hk => hk.2) (.slice Ao14 t329.length co14)) (fun _ hk => hk.2) (.slice Ao17 t332.length co17)) (fun _ hk => ⟨hk.1.1.1, ⟨(by simp [Value.ownBlock]), ⟨hk.1.1.2, hk.1.2⟩⟩⟩)⟩, ⟨by (with_reducible repeat (first | apply Kd.zbi | apply Kd.zbk | apply Kd.zbn)); exact Kd.zaq (Kd.V_far (p := ⟨gb335, 1, none⟩) (Kd.V_far (p := ⟨gb335, 0, none⟩) (Kd.zaq HO334.out (fun k_ hk => (⟨hk, hk.2⟩ : _ ∧ k_ ≠ gb335))) (fun _ hk => hk.2) (.slice Ao14 t329.length co14)) (fun _ hk => hk.2) (.slice Ao17 t332.length co17)) (fun _ hk => ⟨hk.1.1.1, ⟨(by simp [Value.ownBlock]), ⟨hk.1.1.2, hk.1.2⟩⟩⟩)⟩, ⟨by (with_reducible repeat (first | refine zak ?_ _ | refine zah ?_ | refine zai ?_ _)); refine zb8 ?_ NB324_335.out _; (with_reducible repeat (first | refine zak ?_ _ | refine zah ?_ | refine zai ?_ _)); refine zb8 ?_ NB324_335.out _; (with_reducible repeat (first | refine zak ?_ _ | refine zah ?_ | refine zai ?_ _)); exact BK324.out⟩, ⟨by (with_reducible repeat (first | refine zak ?_ _ | refine zah ?_ | refine zai ?_ _)); refine zbb (cs := #[.slice Ao14 t329.length co14, .slice none 0 0]) ?_ 1 _ rfl; (with_reducible repeat (first | refine zak ?_ _ | refine zah ?_ | refine zai ?_ _)); refine zbb (cs := #[.slice none 0 0, .slice none 0 0]) ?_ 0 _ rfl; (with_reducible repeat (first | refine zak ?_ _ | refine zah ?_ | refine zai ?_ _)); exact BK335.out⟩, ⟨zB HB⟩⟩
  case round =>
   clear H'
   try clear c1
   try clear c2
   try clear p2
   try clear c3
   try clear c5
   try clear c5b0
   try clear c5b1
   try clear p6
   try clear c15
   try clear c16
   try clear hcz10_0
   try clear hcz10_1
   try clear hcz16_0
   try clear hcz16_1
   try clear hcz8_0
   try clear hcz8_1
   try clear hfz10_0
   try clear hfz10_1
   try clear hfz16_0
   try clear hfz16_1
   try clear hfz8_0
   try clear hfz8_1
   obtain ⟨x11_1, x29_1, rfl, HA, HK1, HO_11, HO_27, HO_336000, HO_336001, BK324, BK335, HB⟩ := hrel
   cases gk with
   | zero => exact absurd HA.out (by simp [zbu.l0])
   | succ k1 =>
    have H := HA.out
    clear HA
    simp only [zbu.l0] at H
    by_cases c18 : x29_1 < (t325.length : Int)
    ·
     rw [if_pos c18] at H
     have c18b0 : decide (x29_1 < (t325.length : Int)) = true := decide_eq_true c18
     clear c18
     by_cases c19 : 0 ≤ x29_1
     ·
      rw [if_pos c19] at H
      have c19b0 : decide (0 ≤ x29_1) = true := decide_eq_true c19
      clear c19
      by_cases c20 : x29_1 < (t325.length : Int)
      ·
       rw [if_pos c20] at H
       have c20b0 : decide (x29_1 < (t325.length : Int)) = true := decide_eq_true c20
       clear c20
       replace H := zO H
       obtain ⟨⟨t338, t341⟩, A210, H⟩ := H
       try dsimp only at H
       have A21 := zA A210
       clear A210
       by_cases c22 : x11_1.length < 2932031007402
       ·
        rw [if_pos c22] at H
        have LMc22 := zA c22
        clear c22
        obtain ⟨y344, hy344⟩ : ∃ y_ : List (S29), y_ = (x11_1 ++ [(⟨t338, t341⟩ : S29)]) := ⟨_, rfl⟩
        replace H : (zbu.l0 k1 y344 t325 (t325.length : Int) (wrap64 (x29_1 + 1)) t329 t332) = some (r1, r2) := by first | (rw [hy344]; with_reducible exact H) | (have H2_ := (Option.bind_some _ _).symm.trans H; rw [hy344]; with_reducible exact H2_) | (have H2_ := (Option.bind_some _ _).symm.trans H; with_reducible exact H2_) | with_reducible exact H | (rw [hy344]; exact H) | exact H
        have Ny344 := zA hy344
        clear hy344
        have H' := zA H
        clear H
        have p336 : 0 ≤ (x29_1 : Int) := of_decide_eq_true (by first | (with_reducible assumption) | assumption)
        have q336 : x29_1 < (t325.length : Int) := of_decide_eq_true (by first | (with_reducible assumption) | assumption)
        obtain ⟨ad336, e336, hx336_0, hx336_1⟩ := at_T90 (Kd.zan HO_27.out).2.2 x29_1 p336 q336
        cases e336
        replace p336 := eq_true p336
        replace q336 := eq_true q336
        go_wp2_with (first | ((with_reducible refine za4 (N := 13) rfl ?_); refine zba ?hg (N := 13) ?hd (cs := #[.int .i64 0, .int .i64 0]) (t := 90) ?hr ?_; (case hd => rfl); (case hg => rfl); (case hr => first | (go_simp; done) | (go_simp; rfl)); intro gb337 hg w23 hbox hb; have n0_ := zA (Kd.N_below (Kd.N_elderB (zN HO_11) gb337 (Nat.le_of_eq hg.symm)) hb); have n1_ := zA (Kd.za1 (Kd.zdf (zV HO_27) gb337 (Nat.le_of_eq hg.symm)) hb); have n2_ := zA (Kd.za1 (Kd.zdf (zV HO_336000) gb337 (Nat.le_of_eq hg.symm)) hb); have n3_ := zA (Kd.za1 (Kd.zdf (zV HO_336001) gb337 (Nat.le_of_eq hg.symm)) hb); have n4_ := zA (zae (g := gb324) (o := .cells #[.slice A0_0 l0_0.length c0_0, .slice A0_1 l0_1.length c0_1] 29 (0, 0)) (zK BK324) hb); have n5_ := zA (zae (g := gb335) (o := .cells #[.slice Ao14 t329.length co14, .slice Ao17 t332.length co17] 29 (0, 0)) (zK BK335) hb); have n6_ := zA (zab (zB HB) hb); have n7_ := zA (hbox); have n9_ := zA ((by rw [hg]; exact (za (zB HB)) : w.heap.size ≤ gb337)); have n10_ := zA ((by rw [hg]; exact Nat.ne_of_lt (zaw (g := gb324) (o := .cells #[.slice A0_0 l0_0.length c0_0, .slice A0_1 l0_1.length c0_1] 29 (0, 0)) (zK BK324)) : gb324 ≠ gb337)); have n11_ := zA ((by rw [hg]; exact Nat.ne_of_gt (zaw (g := gb324) (o := .cells #[.slice A0_0 l0_0.length c0_0, .slice A0_1 l0_1.length c0_1] 29 (0, 0)) (zK BK324)) : gb337 ≠ gb324)); have n12_ := zA ((by rw [hg]; exact Nat.ne_of_lt (zaw (g := gb335) (o := .cells #[.slice Ao14 t329.length co14, .slice Ao17 t332.length co17] 29 (0, 0)) (zK BK335)) : gb335 ≠ gb337)); have n13_ := zA ((by rw [hg]; exact Nat.ne_of_gt (zaw (g := gb335) (o := .cells #[.slice Ao14 t329.length co14, .slice Ao17 t332.length co17] 29 (0, 0)) (zK BK335)) : gb337 ≠ gb335)); clear HO_11 HO_27 HO_336000 HO_336001 BK324 BK335 HB; have HO_11 := n0_; have HO_27 := n1_; have HO_336000 := n2_; have HO_336001 := n3_; have BK324 := n4_; have BK335 := n5_; have HB := n6_; have BK337 := n7_; have GE337 := n9_; have NB324_337 := n10_; have NB337_324 := n11_; have NB335_337 := n12_; have NB337_335 := n13_; clear n0_ n1_ n2_ n3_ n4_ n5_ n6_ n7_ n9_ n10_ n11_ n12_ n13_ hb hbox hg; have hnb24 := NB337_324.out; have hnc24 := NB324_337.out; have hnb25 := NB337_335.out; have hnc25 := NB335_337.out; have hcz26_0 : w23.cell? ⟨gb337, 0, none⟩ = some (.int .i64 0) := (zac BK337.out 0).trans rfl; have hcz26_1 : w23.cell? ⟨gb337, 1, none⟩ = some (.int .i64 0) := (zac BK337.out 1).trans rfl; have hfz26_0 := zaj BK337.out 0; have hfz26_1 := zaj BK337.out 1; have hnb27 := NB335_324.out; have hnc27 := NB324_335.out; have hcz28_0 : w23.cell? ⟨gb335, 0, none⟩ = some (.slice Ao14 t329.length co14) := (zac BK335.out 0).trans rfl; have hcz28_1 : w23.cell? ⟨gb335, 1, none⟩ = some (.slice Ao17 t332.length co17) := (zac BK335.out 1).trans rfl; have hfz28_0 := zaj BK335.out 0; have hfz28_1 := zaj BK335.out 1) | ((with_reducible refine zad (f := 40) rfl ?_); refine zaz (some 36) rfl rfl Tryz.func40 (by kernel_rfl) rfl #[.agg #[.int .i64 ((rd_T90 t325 x29_1).f0), .int .i64 ((rd_T90 t325 x29_1).f1)], .agg #[.slice Ao14 t329.length co14, .slice Ao17 t332.length co17]] rfl (zE) ?_; (with_reducible refine (zc4.calls k1 ((rd_T90 t325 x29_1).f0) ((rd_T90 t325 x29_1).f1) _ _ t329 _ _ t332 t338 t341 _ ?side1 ?side2 ?side3 ?side4 A21.out).mono ?_); (case side1 => refine (Kd.zan (e := 82) (base := w.heap.size) (ok := fun k_ => (((w.heap.size ≤ k_) ∧ (some k_ ≠ (u11 : Value).ownBlock ∧ (k_ ≠ gb324 ∧ k_ ≠ gb335))) ∧ k_ ≠ gb337)) (n := t329.length) (c := co14) ?_).2.2; exact (by (with_reducible repeat (first | apply Kd.zbi | apply Kd.zbk | apply Kd.zbn)); exact (Kd.zaq (Kd.V_far (p := ⟨gb337, 1, none⟩) (Kd.V_far (p := ⟨gb337, 0, none⟩) (Kd.zaq HO_336000.out (fun k_ hk => (⟨hk, hk.2⟩ : _ ∧ k_ ≠ gb337))) (fun _ hk => hk.2) (.int .i64 ((rd_T90 t325 x29_1).f0))) (fun _ hk => hk.2) (.int .i64 ((rd_T90 t325 x29_1).f1))) (fun _ h_ => h_.1)))); (case side2 => exact (Kd.zan HO_336000.out).2.1); (case side3 => refine (Kd.zan (e := 82) (base := w.heap.size) (ok := fun k_ => (((w.heap.size ≤ k_) ∧ (some k_ ≠ (u11 : Value).ownBlock ∧ (k_ ≠ gb324 ∧ k_ ≠ gb335))) ∧ k_ ≠ gb337)) (n := t332.length) (c := co17) ?_).2.2; exact (by (with_reducible repeat (first | apply Kd.zbi | apply Kd.zbk | apply Kd.zbn)); exact (Kd.zaq (Kd.V_far (p := ⟨gb337, 1, none⟩) (Kd.V_far (p := ⟨gb337, 0, none⟩) (Kd.zaq HO_336001.out (fun k_ hk => (⟨hk, hk.2⟩ : _ ∧ k_ ≠ gb337))) (fun _ hk => hk.2) (.int .i64 ((rd_T90 t325 x29_1).f0))) (fun _ hk => hk.2) (.int .i64 ((rd_T90 t325 x29_1).f1))) (fun _ h_ => h_.1)))); (case side4 => exact (Kd.zan HO_336001.out).2.1); rintro e w29 ⟨v339, v342, rfl, ho0, ho1, hb⟩; refine ⟨_, rfl, ?_⟩; have n0_ := zA (Kd.N_below (by (with_reducible repeat (first | apply Kd.N_alloc | apply Kd.N_drewN | apply Kd.zdk)); exact (Kd.zdh (Kd.N_far (p := ⟨gb337, 1, none⟩) (Kd.N_far (p := ⟨gb337, 0, none⟩) (Kd.zdh HO_11.out (fun k_ hk => (⟨hk, hk.2⟩ : _ ∧ k_ ≠ gb337))) (fun _ hk => hk.2) (.int .i64 ((rd_T90 t325 x29_1).f0))) (fun _ hk => hk.2) (.int .i64 ((rd_T90 t325 x29_1).f1))) (fun _ h_ => h_.1))) hb); have n1_ := zA (Kd.za1 (by (with_reducible repeat (first | apply Kd.zbi | apply Kd.zbk | apply Kd.zbn)); exact (Kd.zaq (Kd.V_far (p := ⟨gb337, 1, none⟩) (Kd.V_far (p := ⟨gb337, 0, none⟩) (Kd.zaq HO_27.out (fun k_ hk => (⟨hk, hk.2⟩ : _ ∧ k_ ≠ gb337))) (fun _ hk => hk.2) (.int .i64 ((rd_T90 t325 x29_1).f0))) (fun _ hk => hk.2) (.int .i64 ((rd_T90 t325 x29_1).f1))) (fun _ h_ => h_.1))) hb); have n2_ := zA (Kd.za1 (by (with_reducible repeat (first | apply Kd.zbi | apply Kd.zbk | apply Kd.zbn)); exact (Kd.zaq (Kd.V_far (p := ⟨gb337, 1, none⟩) (Kd.V_far (p := ⟨gb337, 0, none⟩) (Kd.zaq HO_336000.out (fun k_ hk => (⟨hk, hk.2⟩ : _ ∧ k_ ≠ gb337))) (fun _ hk => hk.2) (.int .i64 ((rd_T90 t325 x29_1).f0))) (fun _ hk => hk.2) (.int .i64 ((rd_T90 t325 x29_1).f1))) (fun _ h_ => h_.1))) hb); have n3_ := zA (Kd.za1 (by (with_reducible repeat (first | apply Kd.zbi | apply Kd.zbk | apply Kd.zbn)); exact (Kd.zaq (Kd.V_far (p := ⟨gb337, 1, none⟩) (Kd.V_far (p := ⟨gb337, 0, none⟩) (Kd.zaq HO_336001.out (fun k_ hk => (⟨hk, hk.2⟩ : _ ∧ k_ ≠ gb337))) (fun _ hk => hk.2) (.int .i64 ((rd_T90 t325 x29_1).f0))) (fun _ hk => hk.2) (.int .i64 ((rd_T90 t325 x29_1).f1))) (fun _ h_ => h_.1))) hb); have n4_ := zA (Kd.za6 (Kd.zaq (ok' := fun k_ => (w.heap.size ≤ k_) ∧ some k_ ≠ (u11 : Value).ownBlock ∧ k_ ≠ gb324 ∧ k_ ≠ gb335 ∧ k_ ≠ gb337) ho0 (fun k_ hk_ => ⟨(Nat.le_trans (za (zB HB)) hk_), (Kd.fresh' (Kd.N_lt (by (with_reducible repeat (first | apply Kd.N_alloc | apply Kd.N_drewN | apply Kd.zdk)); exact (Kd.zdh (Kd.N_far (p := ⟨gb337, 1, none⟩) (Kd.N_far (p := ⟨gb337, 0, none⟩) (Kd.zdh HO_11.out (fun k_ hk => (⟨hk, hk.2⟩ : _ ∧ k_ ≠ gb337))) (fun _ hk => hk.2) (.int .i64 ((rd_T90 t325 x29_1).f0))) (fun _ hk => hk.2) (.int .i64 ((rd_T90 t325 x29_1).f1))) (fun _ h_ => h_.1)))) k_ hk_), (Kd.freshB (g := gb324) (o := .cells #[.slice A0_0 l0_0.length c0_0, .slice A0_1 l0_1.length c0_1] 29 (0, 0)) (by (with_reducible repeat (first | refine zak ?_ _ | refine zah ?_ | refine zai ?_ _)); refine zb8 ?_ NB324_337.out _; (with_reducible repeat (first | refine zak ?_ _ | refine zah ?_ | refine zai ?_ _)); refine zb8 ?_ NB324_337.out _; (with_reducible repeat (first | refine zak ?_ _ | refine zah ?_ | refine zai ?_ _)); exact BK324.out) k_ hk_), (Kd.freshB (g := gb335) (o := .cells #[.slice Ao14 t329.length co14, .slice Ao17 t332.length co17] 29 (0, 0)) (by (with_reducible repeat (first | refine zak ?_ _ | refine zah ?_ | refine zai ?_ _)); refine zb8 ?_ NB335_337.out _; (with_reducible repeat (first | refine zak ?_ _ | refine zah ?_ | refine zai ?_ _)); refine zb8 ?_ NB335_337.out _; (with_reducible repeat (first | refine zak ?_ _ | refine zah ?_ | refine zai ?_ _)); exact BK335.out) k_ hk_), (Kd.freshB (g := gb337) (o := .cells #[.int .i64 ((rd_T90 t325 x29_1).f0), .int .i64 ((rd_T90 t325 x29_1).f1)] 90 (0, 0)) (by (with_reducible repeat (first | refine zak ?_ _ | refine zah ?_ | refine zai ?_ _)); refine zbb (cs := #[.int .i64 ((rd_T90 t325 x29_1).f0), .int .i64 0]) ?_ 1 _ rfl; (with_reducible repeat (first | refine zak ?_ _ | refine zah ?_ | refine zai ?_ _)); refine zbb (cs := #[.int .i64 0, .int .i64 0]) ?_ 0 _ rfl; (with_reducible repeat (first | refine zak ?_ _ | refine zah ?_ | refine zai ?_ _)); exact BK337.out) k_ hk_)⟩)) (za (zB HB))); have n5_ := zA (Kd.za6 (Kd.zaq (ok' := fun k_ => (w.heap.size ≤ k_) ∧ some k_ ≠ (u11 : Value).ownBlock ∧ k_ ≠ gb324 ∧ k_ ≠ gb335 ∧ k_ ≠ gb337) ho1 (fun k_ hk_ => ⟨(Nat.le_trans (za (zB HB)) hk_), (Kd.fresh' (Kd.N_lt (by (with_reducible repeat (first | apply Kd.N_alloc | apply Kd.N_drewN | apply Kd.zdk)); exact (Kd.zdh (Kd.N_far (p := ⟨gb337, 1, none⟩) (Kd.N_far (p := ⟨gb337, 0, none⟩) (Kd.zdh HO_11.out (fun k_ hk => (⟨hk, hk.2⟩ : _ ∧ k_ ≠ gb337))) (fun _ hk => hk.2) (.int .i64 ((rd_T90 t325 x29_1).f0))) (fun _ hk => hk.2) (.int .i64 ((rd_T90 t325 x29_1).f1))) (fun _ h_ => h_.1)))) k_ hk_), (Kd.freshB (g := gb324) (o := .cells #[.slice A0_0 l0_0.length c0_0, .slice A0_1 l0_1.length c0_1] 29 (0, 0)) (by (with_reducible repeat (first | refine zak ?_ _ | refine zah ?_ | refine zai ?_ _)); refine zb8 ?_ NB324_337.out _; (with_reducible repeat (first | refine zak ?_ _ | refine zah ?_ | refine zai ?_ _)); refine zb8 ?_ NB324_337.out _; (with_reducible repeat (first | refine zak ?_ _ | refine zah ?_ | refine zai ?_ _)); exact BK324.out) k_ hk_), (Kd.freshB (g := gb335) (o := .cells #[.slice Ao14 t329.length co14, .slice Ao17 t332.length co17] 29 (0, 0)) (by (with_reducible repeat (first | refine zak ?_ _ | refine zah ?_ | refine zai ?_ _)); refine zb8 ?_ NB335_337.out _; (with_reducible repeat (first | refine zak ?_ _ | refine zah ?_ | refine zai ?_ _)); refine zb8 ?_ NB335_337.out _; (with_reducible repeat (first | refine zak ?_ _ | refine zah ?_ | refine zai ?_ _)); exact BK335.out) k_ hk_), (Kd.freshB (g := gb337) (o := .cells #[.int .i64 ((rd_T90 t325 x29_1).f0), .int .i64 ((rd_T90 t325 x29_1).f1)] 90 (0, 0)) (by (with_reducible repeat (first | refine zak ?_ _ | refine zah ?_ | refine zai ?_ _)); refine zbb (cs := #[.int .i64 ((rd_T90 t325 x29_1).f0), .int .i64 0]) ?_ 1 _ rfl; (with_reducible repeat (first | refine zak ?_ _ | refine zah ?_ | refine zai ?_ _)); refine zbb (cs := #[.int .i64 0, .int .i64 0]) ?_ 0 _ rfl; (with_reducible repeat (first | refine zak ?_ _ | refine zah ?_ | refine zai ?_ _)); exact BK337.out) k_ hk_)⟩)) (za (zB HB))); have n6_ := zA (zae (g := gb324) (o := .cells #[.slice A0_0 l0_0.length c0_0, .slice A0_1 l0_1.length c0_1] 29 (0, 0)) (by (with_reducible repeat (first | refine zak ?_ _ | refine zah ?_ | refine zai ?_ _)); refine zb8 ?_ NB324_337.out _; (with_reducible repeat (first | refine zak ?_ _ | refine zah ?_ | refine zai ?_ _)); refine zb8 ?_ NB324_337.out _; (with_reducible repeat (first | refine zak ?_ _ | refine zah ?_ | refine zai ?_ _)); exact BK324.out) hb); have n7_ := zA (zae (g := gb335) (o := .cells #[.slice Ao14 t329.length co14, .slice Ao17 t332.length co17] 29 (0, 0)) (by (with_reducible repeat (first | refine zak ?_ _ | refine zah ?_ | refine zai ?_ _)); refine zb8 ?_ NB335_337.out _; (with_reducible repeat (first | refine zak ?_ _ | refine zah ?_ | refine zai ?_ _)); refine zb8 ?_ NB335_337.out _; (with_reducible repeat (first | refine zak ?_ _ | refine zah ?_ | refine zai ?_ _)); exact BK335.out) hb); have n8_ := zA (zae (g := gb337) (o := .cells #[.int .i64 ((rd_T90 t325 x29_1).f0), .int .i64 ((rd_T90 t325 x29_1).f1)] 90 (0, 0)) (by (with_reducible repeat (first | refine zak ?_ _ | refine zah ?_ | refine zai ?_ _)); refine zbb (cs := #[.int .i64 ((rd_T90 t325 x29_1).f0), .int .i64 0]) ?_ 1 _ rfl; (with_reducible repeat (first | refine zak ?_ _ | refine zah ?_ | refine zai ?_ _)); refine zbb (cs := #[.int .i64 0, .int .i64 0]) ?_ 0 _ rfl; (with_reducible repeat (first | refine zak ?_ _ | refine zah ?_ | refine zai ?_ _)); exact BK337.out) hb); have n9_ := zA (zab (zB HB) hb); clear HO_11 HO_27 HO_336000 HO_336001 BK324 BK335 BK337 HB; have HO_11 := n0_; have HO_27 := n1_; have HO_336000 := n2_; have HO_336001 := n3_; have HO340 := n4_; have HO343 := n5_; have BK324 := n6_; have BK335 := n7_; have BK337 := n8_; have HB := n9_; clear n0_ n1_ n2_ n3_ n4_ n5_ n6_ n7_ n8_ n9_; (try clear hb); (try clear hb2); (try clear hk); (try clear hi); (try clear ho0); (try clear ho1); obtain ⟨Ao31, co31, eo31⟩ := Kd.za9 HO340.out; subst eo31; obtain ⟨Ao32, co32, eo32⟩ := Kd.za9 HO343.out; subst eo32) | ((with_reducible refine zbx (b := .append) (xs := #[.tmp 33, .tmp 37]) rfl ?_); at_builtin; refine Kd.N_append k29 (w0 := w) w.heap.size rfl (.tmp 33) (.tmp 37) 35 29 (.agg #[(.slice none 0 0), (.slice none 0 0)]) 48 rfl Tryz.underlying35 info29 rfl (by decide) (by omega) u11 x11_1 (⟨t338, t341⟩ : S29) [.slice Ao31 t338.length co31, .slice Ao32 t341.length co32] (fun k_ => (w.heap.size ≤ k_) ∧ k_ ≠ gb324 ∧ k_ ≠ gb335 ∧ k_ ≠ gb337) (fun k_ => ((fun k_ => (w.heap.size ≤ k_) ∧ k_ ≠ gb324 ∧ k_ ≠ gb335 ∧ k_ ≠ gb337)) k_ ∧ some k_ ≠ (u11 : Value).ownBlock) rfl rfl ?aP (fun _ hk => hk) ?aF ?aO ?aB ?aS ?aL ?_; (case aP => exact (k29_mkF _ _ (⟨t338, t341⟩ : S29) (Kd.zan (Kd.zaq (ok' := (fun k_ => ((fun k_ => (w.heap.size ≤ k_) ∧ k_ ≠ gb324 ∧ k_ ≠ gb335 ∧ k_ ≠ gb337)) k_ ∧ some k_ ≠ (u11 : Value).ownBlock)) (HO340.out) (fun k_ hk => ⟨⟨hk.1, ⟨hk.2.2.1, ⟨hk.2.2.2.1, hk.2.2.2.2⟩⟩⟩, hk.2.1⟩))).2.1 (Kd.V_F (Kd.zaq (ok' := (fun k_ => ((fun k_ => (w.heap.size ≤ k_) ∧ k_ ≠ gb324 ∧ k_ ≠ gb335 ∧ k_ ≠ gb337)) k_ ∧ some k_ ≠ (u11 : Value).ownBlock)) (HO340.out) (fun k_ hk => ⟨⟨hk.1, ⟨hk.2.2.1, ⟨hk.2.2.2.1, hk.2.2.2.2⟩⟩⟩, hk.2.1⟩))) (Kd.zan (Kd.zaq (ok' := (fun k_ => ((fun k_ => (w.heap.size ≤ k_) ∧ k_ ≠ gb324 ∧ k_ ≠ gb335 ∧ k_ ≠ gb337)) k_ ∧ some k_ ≠ (u11 : Value).ownBlock)) (HO343.out) (fun k_ hk => ⟨⟨hk.1, ⟨hk.2.2.1, ⟨hk.2.2.2.1, hk.2.2.2.2⟩⟩⟩, hk.2.1⟩))).2.1 (Kd.V_F (Kd.zaq (ok' := (fun k_ => ((fun k_ => (w.heap.size ≤ k_) ∧ k_ ≠ gb324 ∧ k_ ≠ gb335 ∧ k_ ≠ gb337)) k_ ∧ some k_ ≠ (u11 : Value).ownBlock)) (HO343.out) (fun k_ hk => ⟨⟨hk.1, ⟨hk.2.2.1, ⟨hk.2.2.2.1, hk.2.2.2.2⟩⟩⟩, hk.2.1⟩))))); (case aB => exact (zB HB)); (case aF => exact (fun k_ hk => ⟨(Nat.le_trans (za (zB HB)) hk), Kd.freshB (g := gb324) (o := .cells #[.slice A0_0 l0_0.length c0_0, .slice A0_1 l0_1.length c0_1] 29 (0, 0)) (zK BK324) k_ hk, Kd.freshB (g := gb335) (o := .cells #[.slice Ao14 t329.length co14, .slice Ao17 t332.length co17] 29 (0, 0)) (zK BK335) k_ hk, Kd.freshB (g := gb337) (o := .cells #[.int .i64 ((rd_T90 t325 x29_1).f0), .int .i64 ((rd_T90 t325 x29_1).f1)] 90 (0, 0)) (zK BK337) k_ hk⟩)); (case aO => exact (by (with_reducible repeat (first | apply Kd.N_alloc | apply Kd.N_drewN | apply Kd.zdk)); exact Kd.zdh HO_11.out (fun _ hk => ⟨hk.1.1, ⟨hk.1.2.1, ⟨hk.1.2.2, hk.2⟩⟩⟩))); (case aS => exact (za (zB HB))); (case aL => have := LMc22.out; omega); intro v345 w30 ho hb hg hat; rw [← Ny344.out] at ho; have n0_ := zA (Kd.V_afterv (ok := (fun k_ => (w.heap.size ≤ k_) ∧ k_ ≠ gb324 ∧ k_ ≠ gb335 ∧ k_ ≠ gb337)) (by (with_reducible repeat (first | apply Kd.zbi | apply Kd.zbk | apply Kd.zbn)); exact Kd.zaq HO_27.out (fun _ hk => ⟨⟨hk.1.1, ⟨hk.1.2.2.1, ⟨hk.1.2.2.2, hk.2⟩⟩⟩, hk.1.2.1⟩)) hg hat); have n1_ := zA (Kd.V_afterv (ok := (fun k_ => (w.heap.size ≤ k_) ∧ k_ ≠ gb324 ∧ k_ ≠ gb335 ∧ k_ ≠ gb337)) (by (with_reducible repeat (first | apply Kd.zbi | apply Kd.zbk | apply Kd.zbn)); exact Kd.zaq HO_336000.out (fun _ hk => ⟨⟨hk.1.1, ⟨hk.1.2.2.1, ⟨hk.1.2.2.2, hk.2⟩⟩⟩, hk.1.2.1⟩)) hg hat); have n2_ := zA (Kd.V_afterv (ok := (fun k_ => (w.heap.size ≤ k_) ∧ k_ ≠ gb324 ∧ k_ ≠ gb335 ∧ k_ ≠ gb337)) (by (with_reducible repeat (first | apply Kd.zbi | apply Kd.zbk | apply Kd.zbn)); exact Kd.zaq HO_336001.out (fun _ hk => ⟨⟨hk.1.1, ⟨hk.1.2.2.1, ⟨hk.1.2.2.2, hk.2⟩⟩⟩, hk.1.2.1⟩)) hg hat); have n3_ := zA (blk_grown (g := gb324) (o := .cells #[.slice A0_0 l0_0.length c0_0, .slice A0_1 l0_1.length c0_1] 29 (0, 0)) (zK BK324) hg (Kd.N_away HO_11.out (fun _ hk => hk.1.2.1))); have n4_ := zA (blk_grown (g := gb335) (o := .cells #[.slice Ao14 t329.length co14, .slice Ao17 t332.length co17] 29 (0, 0)) (zK BK335) hg (Kd.N_away HO_11.out (fun _ hk => hk.1.2.2))); have n8_ := zA (hb); have n9_ := zA (ho); clear HO_27 HO_336000 HO_336001 BK324 BK335 HB HO_11; have HO_27 := n0_; have HO_336000 := n1_; have HO_336001 := n2_; have BK324 := n3_; have BK335 := n4_; have HB := n8_; have HO346 := n9_; clear n0_ n1_ n2_ n3_ n4_ n8_ n9_ ho hb hg hat))
        go_roundg k1
        case measure => have := HK1.out; omega
        case rel => exact ⟨(y344), (wrap64 (x29_1 + 1)), (zF), H', ⟨by have := HK1.out; omega⟩, ⟨by (with_reducible repeat (first | apply Kd.N_alloc | apply Kd.N_drewN | apply Kd.zdk)); exact Kd.zdh HO346.out (fun _ hk => ⟨hk.1, ⟨hk.2.1, hk.2.2.1⟩⟩)⟩, ⟨by (with_reducible repeat (first | apply Kd.zbi | apply Kd.zbk | apply Kd.zbn)); exact Kd.zaq HO_27.out (fun _ hk => ⟨hk.1.1, ⟨hk.2, ⟨hk.1.2.1, hk.1.2.2.1⟩⟩⟩)⟩, ⟨by (with_reducible repeat (first | apply Kd.zbi | apply Kd.zbk | apply Kd.zbn)); exact Kd.zaq HO_336000.out (fun _ hk => ⟨hk.1.1, ⟨hk.2, ⟨hk.1.2.1, hk.1.2.2.1⟩⟩⟩)⟩, ⟨by (with_reducible repeat (first | apply Kd.zbi | apply Kd.zbk | apply Kd.zbn)); exact Kd.zaq HO_336001.out (fun _ hk => ⟨hk.1.1, ⟨hk.2, ⟨hk.1.2.1, hk.1.2.2.1⟩⟩⟩)⟩, ⟨zK BK324⟩, ⟨zK BK335⟩, ⟨zB HB⟩⟩
       ·
        rw [if_neg c22] at H
        exact absurd H (by simp)
      ·
       rw [if_neg c20] at H
       exact absurd H (by simp)
     ·
      rw [if_neg c19] at H
      exact absurd H (by simp)
    ·
     rw [if_neg c18] at H
     have c18b0 : decide (x29_1 < (t325.length : Int)) = false := decide_eq_false c18
     clear c18
     simp only [Option.some.injEq, Prod.mk.injEq] at H
     obtain ⟨rfl, rfl⟩ := H
     go_wp2
     go_ret2
     exact ⟨_, zW, by (with_reducible repeat (first | apply Kd.N_alloc | apply Kd.N_drewN | apply Kd.zdk)); exact Kd.zdh HO_11.out (fun _ hk => hk.1), zB HB⟩
 ·
  rw [if_neg c5] at H
  have c5b0 : (t328 == 0) = false := beq_eq_false_iff_ne.mpr c5
  have c5b1 : (t328 != 0) = true := bne_iff_ne.mpr c5
  simp only [Option.some.injEq, Prod.mk.injEq] at H
  obtain ⟨rfl, rfl⟩ := H
  go_enter Tryz.func16, Tryz.ntmps16
  go_wp2_with (first | ((with_reducible refine za4 (N := 3) rfl ?_); refine zba ?hg (N := 3) ?hd (cs := #[.slice A0_0 l0_0.length c0_0, .slice A0_1 l0_1.length c0_1]) (t := 29) ?hr ?_; (case hd => rfl); (case hg => rfl); (case hr => first | (go_simp; done) | (go_simp; rfl)); intro gb324 hg w33 hbox hb; have n0_ := zA (zab (zB HB) hb); have n1_ := zA (hbox); have n3_ := zA ((by rw [hg]; exact (za (zB HB)) : w.heap.size ≤ gb324)); clear HB; have HB := n0_; have BK324 := n1_; have GE324 := n3_; clear n0_ n1_ n3_ hb hbox hg; have hcz34_0 : w33.cell? ⟨gb324, 0, none⟩ = some (.slice A0_0 l0_0.length c0_0) := (zac BK324.out 0).trans rfl; have hcz34_1 : w33.cell? ⟨gb324, 1, none⟩ = some (.slice A0_1 l0_1.length c0_1) := (zac BK324.out 1).trans rfl; have hfz34_0 := zaj BK324.out 0; have hfz34_1 := zaj BK324.out 1) | ((with_reducible refine zad (f := 38) rfl ?_); refine zaz (some 18) rfl rfl Tryz.func38 (by kernel_rfl) rfl #[.agg #[.slice A0_0 l0_0.length c0_0, .slice A0_1 l0_1.length c0_1], .slice A1 l1.length c1, .slice A2 l2.length c2] rfl (zE) ?_; (with_reducible refine (zc0.calls k _ _ l0_0 _ _ l0_1 _ _ l1 _ _ l2 t325 t328 _ ?side1 ?side2 ?side3 ?side4 ?side5 ?side6 ?side7 ?side8 A4.out).mono ?_); (case side1 => exact zJ (Kd.zax HR0_0.out HB.out)); (case side2 => exact HC0_0.out); (case side3 => exact zJ (Kd.zax HR0_1.out HB.out)); (case side4 => exact HC0_1.out); (case side5 => exact zJ (Kd.zax HR1.out HB.out)); (case side6 => exact HC1.out); (case side7 => exact zJ (Kd.zax HR2.out HB.out)); (case side8 => exact HC2.out); rintro e w35 ⟨v326, rfl, ho0, hb⟩; refine ⟨_, rfl, ?_⟩; have n2_ := zA (zab (zB HB) hb); clear HB; have HB := n2_; clear n2_; (try clear hb); (try clear hb2); (try clear hk); (try clear hi); (try clear ho0)))
  go_ret2
  exact ⟨_, zW, by first | exact Kd.S_nil _ _ _ _ _ | exact Kd.N_nil _ _ _ _ _ | exact Kd.V_nil _ _ _ _ _ | exact Kd.Q_nil _ _ _ _ _ | exact Kd.R_nil _ _ _ _ _, zB HB⟩
end Go.Proofs.YthiicmanfpmipaaGreatDoor.P
end
