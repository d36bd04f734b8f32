-- Written by a program of this session (wip/tools/shake.py) out of its own texts and of the kit's printed ones; not trusted: Lean checks it.
import Derived.Test.YtbakdobjidjncaaZRoundSettled0
set_option maxHeartbeats 8000000
set_option maxRecDepth 100000
set_option linter.unusedVariables false
set_option linter.unusedSimpArgs false
section
namespace Go.Proofs
open Go.Shelf
def Try.lays189_ren : Go.Shelf.Ren := ⟨fun | 189 => 45 | 125 => 58 | 257 => 57 | 128 => 73 | 129 => 74 | 294 => 64 | 295 => 65 | 296 => 66 | 297 => 67 | 298 => 68 | 299 => 69 | 216 => 70 | 300 => 71 | 301 => 72 | 328 => 77 | 329 => 78 | 330 => 79 | 331 => 80 | 332 => 81 | 215 => 82 | 343 => 84 | n => n, fun | 28 => 26 | 3 => 3 | 46 => 101 | 0 => 0 | 51 => 119 | 53 => 121 | 4 => 4 | 183 => 111 | 182 => 110 | 131 => 116 | 5 => 5 | 9 => 9 | 218 => 122 | 222 => 126 | 228 => 129 | 229 => 130 | n => n, fun | n => n⟩
theorem Try.lays189 : Go.Proofs.Lays.n189 Try.prog Try.lays189_ren := {
 mixed := by kernel_rfl
 f125 := Try.func58.trans (congrArg some (by kernel_rfl))
 f128 := Try.func73.trans (congrArg some (by kernel_rfl))
 f129 := Try.func74.trans (congrArg some (by kernel_rfl))
 f189 := Try.func45.trans (congrArg some (by kernel_rfl))
 f215 := Try.func82.trans (congrArg some (by kernel_rfl))
 f216 := Try.func70.trans (congrArg some (by kernel_rfl))
 f257 := Try.func57.trans (congrArg some (by kernel_rfl))
 f294 := Try.func64.trans (congrArg some (by kernel_rfl))
 f295 := Try.func65.trans (congrArg some (by kernel_rfl))
 f296 := Try.func66.trans (congrArg some (by kernel_rfl))
 f297 := Try.func67.trans (congrArg some (by kernel_rfl))
 f298 := Try.func68.trans (congrArg some (by kernel_rfl))
 f299 := Try.func69.trans (congrArg some (by kernel_rfl))
 f300 := Try.func71.trans (congrArg some (by kernel_rfl))
 f301 := Try.func72.trans (congrArg some (by kernel_rfl))
 f328 := Try.func77.trans (congrArg some (by kernel_rfl))
 f329 := Try.func78.trans (congrArg some (by kernel_rfl))
 f330 := Try.func79.trans (congrArg some (by kernel_rfl))
 f331 := Try.func80.trans (congrArg some (by kernel_rfl))
 f332 := Try.func81.trans (congrArg some (by kernel_rfl))
 f343 := Try.func84.trans (congrArg some (by kernel_rfl))
 t0 := Try.underlying0
 a0 := Try.isAgg0
 z0 := Try.sizeOf0
 v0 := Try.zeroValue0
 t3 := Try.underlying3
 a3 := Try.isAgg3
 z3 := Try.sizeOf3
 v3 := Try.zeroValue3
 t4 := Try.underlying4
 a4 := Try.isAgg4
 z4 := Try.sizeOf4
 v4 := Try.zeroValue4
 t5 := Try.underlying5
 a5 := Try.isAgg5
 z5 := Try.sizeOf5
 v5 := Try.zeroValue5
 t9 := Try.underlying9
 a9 := Try.isAgg9
 z9 := Try.sizeOf9
 v9 := Try.zeroValue9
 t28 := Try.underlying26
 a28 := Try.isAgg26
 z28 := Try.sizeOf26
 v28 := Try.zeroValue26
 t46 := Try.underlying101
 a46 := Try.isAgg101
 z46 := Try.sizeOf101
 v46 := Try.zeroValue101
 t51 := Try.underlying119
 a51 := Try.isAgg119
 z51 := Try.sizeOf119
 v51 := Try.zeroValue119
 t53 := Try.underlying121
 a53 := Try.isAgg121
 z53 := Try.sizeOf121
 v53 := Try.zeroValue121
 t131 := Try.underlying116
 a131 := Try.isAgg116
 z131 := Try.sizeOf116
 v131 := Try.zeroValue116
 t182 := Try.underlying110
 a182 := Try.isAgg110
 z182 := Try.sizeOf110
 v182 := Try.zeroValue110
 t183 := Try.underlying111
 a183 := Try.isAgg111
 z183 := Try.sizeOf111
 v183 := Try.zeroValue111
 t218 := Try.underlying122
 a218 := Try.isAgg122
 z218 := Try.sizeOf122
 v218 := Try.zeroValue122
 t222 := Try.underlying126
 a222 := Try.isAgg126
 z222 := Try.sizeOf126
 v222 := Try.zeroValue126
 t228 := Try.underlying129
 a228 := Try.isAgg129
 z228 := Try.sizeOf129
 v228 := Try.zeroValue129
 t229 := Try.underlying130
 a229 := Try.isAgg130
 z229 := Try.sizeOf130
 v229 := Try.zeroValue130 }
open Go.Sort Go.RowKit in
theorem Try.slices_Sort_int (blk off cap : Nat) (zs : List Int) (w : World) (hH : Holds (Value.int .i64) w blk off zs.toArray) (hblk : blk < w.heap.size) (hsz : zs.length < 4611686018427387904) :
  Calls Try.prog 45 #[.slice (some ⟨blk, off, none⟩) zs.length cap] w fun e w' =>
   e = .returned (.tuple #[]) ∧ ∃ n os, w' = grow (putRow (Value.int .i64) (Sort.ahead w n) blk off (zs.mergeSort fun x y => decide (x ≤ y)).toArray) os := Any.slices_Sort_int Try.lays189 blk off cap zs w hH hblk hsz
open Go.RowKit Go.Sort in
theorem Try.slices_Sort_int_none (p : Option Addr) (cap : Nat) (w : World) :
  Calls Try.prog 45 #[.slice p 0 cap] w fun e w' => e = .returned (.tuple #[]) ∧ w' = w := Any.slices_Sort_int_none Try.lays189 p cap w
end Go.Proofs
end
section
namespace Go.Proofs.Ytbakdobjidjncaa.P
open Go.RowKit Go.Proofs.YtbakdobjidjncaaW.PrintWords Go.Proofs.YtbakdobjidjncaaW.PrintLast Go.Proofs.YtbakdobjidjncaaW.PrintMore
attribute [local go_sem] zbv zbu max_two min_two zbn zbo zby zbw
def errW : Option Int → Value
 | none => .nilIface
 | some c => .iface 0 (.int .i64 c)
theorem za7 : errW none = .nilIface := rfl
theorem za6 (c : Int) : errW (some c) = .iface 0 (.int .i64 c) := rfl
theorem info3 : (Try.prog.info? 3).map (fun i => (i.zero, i.size, i.bytes)) = some (some (.int .i64 0), 1, 8) := by kernel_rfl
theorem info86 : (Try.prog.info? 86).map (fun i => (i.zero, i.size, i.bytes)) = some (some (.agg #[(.int .i64 0), (.int .i64 0), (.int .i64 0), (.int .i64 0)]), 4, 32) := by kernel_rfl
structure S86 where
 f0 : Int
 f1 : Int
 f2 : Int
 f3 : Int
def z86 : S86 := ⟨(0 : Int), (0 : Int), (0 : Int), (0 : Int)⟩
def k86 : Kd S86 := Kd.iso (Kd.pair (Kd.int .i64) (Kd.pair (Kd.int .i64) (Kd.pair (Kd.int .i64) (Kd.int .i64)))) (fun x : S86 => (x.f0, x.f1, x.f2, x.f3))
theorem k86_open {w : World} {x : S86} {cs : List Value} (h : k86.K w x cs) : cs = [.int .i64 x.f0, .int .i64 x.f1, .int .i64 x.f2, .int .i64 x.f3] := by
 obtain ⟨_, _, rfl, rfl, ⟨_, _, rfl, rfl, ⟨_, _, rfl, rfl, rfl⟩⟩⟩ := h
 exact rfl
theorem k86_openM {w : World} {base : Nat} {ok : Nat → Prop} {x : S86} {cs : List Value} (h : k86.M w base ok x cs) : cs = [.int .i64 x.f0, .int .i64 x.f1, .int .i64 x.f2, .int .i64 x.f3] := by
 obtain ⟨_, _, rfl, rfl, ⟨_, _, rfl, rfl, ⟨_, _, rfl, rfl, rfl⟩⟩⟩ := h
 exact rfl
theorem k86_mkM (w : World) (base : Nat) (ok : Nat → Prop) (x : S86)  : k86.M w base ok x [.int .i64 x.f0, .int .i64 x.f1, .int .i64 x.f2, .int .i64 x.f3] := ⟨[.int .i64 x.f0], [.int .i64 x.f1, .int .i64 x.f2, .int .i64 x.f3], rfl, rfl, ⟨[.int .i64 x.f1], [.int .i64 x.f2, .int .i64 x.f3], rfl, rfl, ⟨[.int .i64 x.f2], [.int .i64 x.f3], rfl, rfl, rfl⟩⟩⟩
def rd_T86 (xs : List S86) (i : Int) : S86 := xs.getD i.toNat z86
theorem at_T86 {w : World} {A : Option Addr} {n : Nat} {xs : List S86} (h : Kd.C k86 w A n xs) (i : Int) (h0 : 0 ≤ i) (h1 : i < n) : ∃ ad , A = some ad ∧ w.cell? (ad.add (i.toNat * 4)) = some (.int .i64 (rd_T86 xs i).f0) ∧ w.cell? ⟨(ad.add (i.toNat * 4)).block, (ad.add (i.toNat * 4)).off + 1, none⟩ = some (.int .i64 (rd_T86 xs i).f1) ∧ w.cell? ⟨(ad.add (i.toNat * 4)).block, (ad.add (i.toNat * 4)).off + 2, none⟩ = some (.int .i64 (rd_T86 xs i).f2) ∧ w.cell? ⟨(ad.add (i.toNat * 4)).block, (ad.add (i.toNat * 4)).off + 3, none⟩ = some (.int .i64 (rd_T86 xs i).f3) := by
 obtain ⟨ad, c, e, _, hK, hc0⟩ := Kd.C_get h z86 i h0 h1
 have hc : ∀ j u, c[j]? = some u → w.cell? (ad.add (i.toNat * 4 + j)) = some u := hc0
 obtain rfl := k86_open hK
 exact ⟨ad, e, hc 0 _ rfl, by rw [← add_field _ _ 1 (by omega)]; exact hc 1 _ rfl, by rw [← add_field _ _ 2 (by omega)]; exact hc 2 _ rfl, by rw [← add_field _ _ 3 (by omega)]; exact hc 3 _ rfl⟩
def roundelref12_New.f  : Option (Int × (List (S86))) := some (1, ([] : List (S86)))
theorem roundelref12_New.calls  (r1 : Int) (r2 : List (S86)) (w : World) (h : roundelref12_New.f  = some (r1, r2)) :
  Calls Try.prog 20 #[] w fun e w' => ∃ v1_ : Value, e = .returned (.agg #[.int .i64 r1, v1_]) ∧ Kd.R k86 86 w' w.heap.size (fun _ => True) v1_ r2 ∧ Below w.heap.size w w' := by
 have hu39 := Try.underlying39
 have HB := zA (Below.refl w.heap.size w)
 have H : (some (1, ([] : List (S86)))) = some (r1, r2) := h
 clear h
 simp only [Option.some.injEq, Prod.mk.injEq] at H
 obtain ⟨rfl, rfl⟩ := H
 go_enter Try.func20, Try.ntmps20
 go_wp2_with (first | ((with_reducible refine zaw (N := 0) rfl ?_); refine zar ?hg (N := 0) ?hd (cs := #[.int .i64 0, .slice none 0 0]) (t := 39) ?hr ?_; (case hd => rfl); (case hg => rfl); (case hr => first | (go_simp; done) | (go_simp; rfl)); intro gb230 hg w1 hbox hb; have n0_ := zA (zai (zB HB) hb); have n1_ := zA (hbox); have n2_ := zA ((by rw [hg]; exact (zah (zB HB)) : w.heap.size ≤ gb230)); have n3_ := zA ((by rw [hg]; exact (zah (zB HB)) : w.heap.size ≤ gb230)); clear HB; have HB := n0_; have BK230 := n1_; have GW230 := n2_; have GE230 := n3_; clear n0_ n1_ n2_ n3_ hb hbox hg; have hcz2_0 : w1.cell? ⟨gb230, 0, none⟩ = some (.int .i64 0) := (za BK230.out 0).trans rfl; have hcz2_1 : w1.cell? ⟨gb230, 1, none⟩ = some (.slice none 0 0) := (za BK230.out 1).trans rfl; have hfz2_0 := zaa BK230.out 0; have hfz2_1 := zaa BK230.out 1))
 refine bodyPost_ret (results_cell_row rfl _ _ gb230 39 #[.int .i64 1, .slice none 0 0] (0, 0) _ rfl (by (with_reducible repeat (first | refine zaj ?_ _ | refine zaf ?_ | refine zac ?_ _)); refine zal (cs := #[.int .i64 1, .slice none 0 0]) ?_ 1 _ rfl; (with_reducible repeat (first | refine zaj ?_ _ | refine zaf ?_ | refine zac ?_ _)); refine zal (cs := #[.int .i64 0, .slice none 0 0]) ?_ 0 _ rfl; (with_reducible repeat (first | refine zaj ?_ _ | refine zaf ?_ | refine zac ?_ _)); exact BK230.out) Try.underlying39 rfl (by kernel_rfl)) rfl ?_
 exact ⟨_, zW, by first | exact Kd.R_nil _ _ _ _ _ | exact Kd.N_nil _ _ _ _ _ | exact Kd.V_nil _ _ _ _ _ | exact Kd.Q_nil _ _ _ _ _ | exact Kd.S_nil _ _ _ _ _, zB HB⟩
def zaq.l0 : Nat → List Int → List Int → Int → Int → Option (Bool)
 | 0, _, _, _, _ => none
 | k + 1, x0, x1, x12, x13 => if x13 < x12 then (if 0 ≤ x13 then (if x13 < (x0.length : Int) then (if x13 < (x1.length : Int) then (if (rd x0 x13) = (rd x1 x13) then (zaq.l0 k x0 x1 x12 (wrap64 (x13 + 1))) else (some false)) else (none)) else (none)) else (none)) else (some true)
def zaq.f (k : Nat) (l0 : List Int) (l1 : List Int) : Option (Bool) := if (l0.length : Int) = (l1.length : Int) then (zaq.l0 k l0 l1 (l0.length : Int) 0) else (some false)
theorem zaq.calls (k : Nat) (A0 : Option Addr) (c0 : Nat) (l0 : List Int) (A1 : Option Addr) (c1 : Nat) (l1 : List Int) (r : Bool) (w : World) (hr0 : Kd.C (Kd.int .i64) w A0 l0.length l0) (hc0 : l0.length ≤ c0) (hr1 : Kd.C (Kd.int .i64) w A1 l1.length l1) (hc1 : l1.length ≤ c1) (h : zaq.f k l0 l1 = some r) :
  Calls Try.prog 50 #[.slice A0 l0.length c0, .slice A1 l1.length c1] w fun e w' => e = .returned (.bool r) ∧ Drawn0 w w' := by
 have HR0 := zA hr0
 have HC0 := zA hc0
 clear hr0 hc0
 have HR1 := zA hr1
 have HC1 := zA hc1
 clear hr1 hc1
 have H : (if (l0.length : Int) = (l1.length : Int) then (zaq.l0 k l0 l1 (l0.length : Int) 0) else (some false)) = some r := h
 clear h
 by_cases c3 : (l0.length : Int) = (l1.length : Int)
 ·
  rw [if_pos c3] at H
  have c3b0 : ((l0.length : Int) == (l1.length : Int)) = true := beq_iff_eq.mpr c3
  have c3b1 : ((l0.length : Int) != (l1.length : Int)) = false := bne_eq_false_iff_eq.mpr c3
  have c3b2 : (l0.length == l1.length) = true := by first | simpa using c3 | (simp at c3 ⊢; omega)
  clear c3
  have H' := zA H
  clear H
  go_enter Try.func50, Try.ntmps50
  go_wp2
  repeat (go_quiet (fail); try go_wp2)
  go_loopg [13] k (fun kq v13 w' => ∃ (x13_1 : Int), v13 = .int .i64 x13_1 ∧ Aside0 (zaq.l0 kq l0 l1 (l0.length : Int) x13_1 = some r) ∧ Aside0 (kq ≤ k) ∧ Drawn0 w w')
  case atStart => exact ⟨(0), (zF), H', ⟨Nat.le_refl _⟩, by repeat (first | exact Drawn0.refl _ | apply Drawn0.step)⟩
  case round =>
   clear H'
   try clear c1
   try clear p2
   try clear c3
   try clear c3b0
   try clear c3b1
   try clear c3b2
   obtain ⟨x13_1, rfl, HA, HK1, ⟨m1, rfl⟩⟩ := hrel
   cases gk with
   | zero => exact absurd HA.out (by simp [zaq.l0])
   | succ k1 =>
    have H := HA.out
    clear HA
    simp only [zaq.l0] at H
    by_cases c4 : x13_1 < (l0.length : Int)
    ·
     rw [if_pos c4] at H
     have c4b0 : decide (x13_1 < (l0.length : Int)) = true := decide_eq_true c4
     clear c4
     by_cases c5 : 0 ≤ x13_1
     ·
      rw [if_pos c5] at H
      have c5b0 : decide (0 ≤ x13_1) = true := decide_eq_true c5
      clear c5
      by_cases c6 : x13_1 < (l0.length : Int)
      ·
       rw [if_pos c6] at H
       have c6b0 : decide (x13_1 < (l0.length : Int)) = true := decide_eq_true c6
       clear c6
       by_cases c7 : x13_1 < (l1.length : Int)
       ·
        rw [if_pos c7] at H
        have c7b0 : decide (x13_1 < (l1.length : Int)) = true := decide_eq_true c7
        clear c7
        by_cases c8 : (rd l0 x13_1) = (rd l1 x13_1)
        ·
         rw [if_pos c8] at H
         have c8b0 : ((rd l0 x13_1) == (rd l1 x13_1)) = true := beq_iff_eq.mpr c8
         have c8b1 : ((rd l0 x13_1) != (rd l1 x13_1)) = false := bne_eq_false_iff_eq.mpr c8
         clear c8
         have H' := zA H
         clear H
         have p370 : 0 ≤ (x13_1 : Int) := of_decide_eq_true (by first | (with_reducible assumption) | assumption)
         have q370 : x13_1 < (l0.length : Int) := of_decide_eq_true (by first | (with_reducible assumption) | assumption)
         obtain ⟨ad370, e370, hx370_0⟩ := Kd.at_int HR0.out x13_1 p370 q370
         cases e370
         replace p370 := eq_true p370
         replace q370 := eq_true q370
         have p371 : 0 ≤ (x13_1 : Int) := of_decide_eq_true (by first | (with_reducible assumption) | assumption)
         have q371 : x13_1 < (l1.length : Int) := of_decide_eq_true (by first | (with_reducible assumption) | assumption)
         obtain ⟨ad371, e371, hx371_0⟩ := Kd.at_int HR1.out x13_1 p371 q371
         cases e371
         replace p371 := eq_true p371
         replace q371 := eq_true q371
         go_wp2
         repeat (go_quiet (fail); try go_wp2)
         go_roundg k1
         case measure => have := HK1.out; omega
         case rel => exact ⟨(wrap64 (x13_1 + 1)), (zF), H', ⟨by have := HK1.out; omega⟩, by repeat (first | exact Drawn0.refl _ | apply Drawn0.step)⟩
        ·
         rw [if_neg c8] at H
         have c8b0 : ((rd l0 x13_1) == (rd l1 x13_1)) = false := beq_eq_false_iff_ne.mpr c8
         have c8b1 : ((rd l0 x13_1) != (rd l1 x13_1)) = true := bne_iff_ne.mpr c8
         obtain rfl := Option.some.inj H
         have p370 : 0 ≤ (x13_1 : Int) := of_decide_eq_true (by first | (with_reducible assumption) | assumption)
         have q370 : x13_1 < (l0.length : Int) := of_decide_eq_true (by first | (with_reducible assumption) | assumption)
         obtain ⟨ad370, e370, hx370_0⟩ := Kd.at_int HR0.out x13_1 p370 q370
         cases e370
         replace p370 := eq_true p370
         replace q370 := eq_true q370
         have p371 : 0 ≤ (x13_1 : Int) := of_decide_eq_true (by first | (with_reducible assumption) | assumption)
         have q371 : x13_1 < (l1.length : Int) := of_decide_eq_true (by first | (with_reducible assumption) | assumption)
         obtain ⟨ad371, e371, hx371_0⟩ := Kd.at_int HR1.out x13_1 p371 q371
         cases e371
         replace p371 := eq_true p371
         replace q371 := eq_true q371
         go_wp2
         repeat (go_quiet (fail); try go_wp2)
         go_ret
         exact ⟨zF, by repeat (first | exact Drawn0.refl _ | apply Drawn0.step)⟩
       ·
        rw [if_neg c7] at H
        exact absurd H (by simp)
      ·
       rw [if_neg c6] at H
       exact absurd H (by simp)
     ·
      rw [if_neg c5] at H
      exact absurd H (by simp)
    ·
     rw [if_neg c4] at H
     have c4b0 : decide (x13_1 < (l0.length : Int)) = false := decide_eq_false c4
     clear c4
     obtain rfl := Option.some.inj H
     go_wp2
     repeat (go_quiet (fail); try go_wp2)
     go_ret
     exact ⟨zF, by repeat (first | exact Drawn0.refl _ | apply Drawn0.step)⟩
 ·
  rw [if_neg c3] at H
  have c3b0 : ((l0.length : Int) == (l1.length : Int)) = false := beq_eq_false_iff_ne.mpr c3
  have c3b1 : ((l0.length : Int) != (l1.length : Int)) = true := bne_iff_ne.mpr c3
  have c3b2 : (l0.length == l1.length) = false := by first | simpa using c3 | (simp at c3 ⊢; omega)
  obtain rfl := Option.some.inj H
  go_enter Try.func50, Try.ntmps50
  go_wp2
  repeat (go_quiet (fail); try go_wp2)
  go_ret
  exact ⟨zF, by repeat (first | exact Drawn0.refl _ | apply Drawn0.step)⟩
def za5.f (a0_0 : Int) (l0_1 : List (S86)) (a1 : Int) (a2_0 : Int) (a2_1 : Int) (a2_2 : Int) (a2_3 : Int) : Option (Int × (List (S86))) := (some (([] : List (S86)) : List (S86))).bind fun y337 => (if y337.length + l0_1.length < 4398046511104 then ((some (y337 ++ l0_1 : List (S86))).bind fun y340 => (if 0 ≤ a1 then (if a1 < (y340.length : Int) then (some (a0_0, (y340.set (a1 : Int).toNat (⟨a2_0, a2_1, a2_2, a2_3⟩ : S86)))) else (none)) else (none))) else (none))
theorem za5.calls (a0_0 : Int) (A0_1 : Option Addr) (c0_1 : Nat) (l0_1 : List (S86)) (a1 : Int) (a2_0 : Int) (a2_1 : Int) (a2_2 : Int) (a2_3 : Int) (r1 : Int) (r2 : List (S86)) (w : World) (hr0_1 : Kd.C k86 w A0_1 l0_1.length l0_1) (hc0_1 : l0_1.length ≤ c0_1) (h : za5.f a0_0 l0_1 a1 a2_0 a2_1 a2_2 a2_3 = some (r1, r2)) :
  Calls Try.prog 60 #[.agg #[.int .i64 a0_0, .slice A0_1 l0_1.length c0_1], .int .i64 a1, .agg #[.int .i64 a2_0, .int .i64 a2_1, .int .i64 a2_2, .int .i64 a2_3]] w fun e w' => ∃ v1_ : Value, e = .returned (.agg #[.int .i64 r1, v1_]) ∧ Kd.R k86 86 w' w.heap.size (fun _ => True) v1_ r2 ∧ Below w.heap.size w w' := by
 have hu39 := Try.underlying39
 have hu86 := Try.underlying86
 have HR0_1 := zA hr0_1
 have HC0_1 := zA hc0_1
 clear hr0_1 hc0_1
 have HB := zA (Below.refl w.heap.size w)
 have H : ((some (([] : List (S86)) : List (S86))).bind fun y337 => (if y337.length + l0_1.length < 4398046511104 then ((some (y337 ++ l0_1 : List (S86))).bind fun y340 => (if 0 ≤ a1 then (if a1 < (y340.length : Int) then (some (a0_0, (y340.set (a1 : Int).toNat (⟨a2_0, a2_1, a2_2, a2_3⟩ : S86)))) else (none)) else (none))) else (none))) = some (r1, r2) := h
 clear h
 obtain ⟨y337, hy337⟩ : ∃ y_ : List (S86), y_ = (([] : List (S86))) := ⟨_, rfl⟩
 replace H : (if y337.length + l0_1.length < 4398046511104 then ((some (y337 ++ l0_1 : List (S86))).bind fun y340 => (if 0 ≤ a1 then (if a1 < (y340.length : Int) then (some (a0_0, (y340.set (a1 : Int).toNat (⟨a2_0, a2_1, a2_2, a2_3⟩ : S86)))) else (none)) else (none))) else (none)) = some (r1, r2) := by first | (rw [hy337]; with_reducible exact H) | (have H2_ := (Option.bind_some _ _).symm.trans H; rw [hy337]; with_reducible exact H2_) | (have H2_ := (Option.bind_some _ _).symm.trans H; with_reducible exact H2_) | with_reducible exact H | (rw [hy337]; exact H) | exact H
 have Ny337 := zA hy337
 clear hy337
 by_cases c4 : y337.length + l0_1.length < 4398046511104
 ·
  rw [if_pos c4] at H
  have LMc4 := zA c4
  clear c4
  obtain ⟨y340, hy340⟩ : ∃ y_ : List (S86), y_ = (y337 ++ l0_1) := ⟨_, rfl⟩
  replace H : (if 0 ≤ a1 then (if a1 < (y340.length : Int) then (some (a0_0, (y340.set (a1 : Int).toNat (⟨a2_0, a2_1, a2_2, a2_3⟩ : S86)))) else (none)) else (none)) = some (r1, r2) := by first | (rw [hy340]; with_reducible exact H) | (have H2_ := (Option.bind_some _ _).symm.trans H; rw [hy340]; with_reducible exact H2_) | (have H2_ := (Option.bind_some _ _).symm.trans H; with_reducible exact H2_) | with_reducible exact H | (rw [hy340]; exact H) | exact H
  have Ny340 := zA hy340
  clear hy340
  by_cases c5 : 0 ≤ a1
  ·
   rw [if_pos c5] at H
   have c5b0 : decide (0 ≤ a1) = true := decide_eq_true c5
   clear c5
   by_cases c6 : a1 < (y340.length : Int)
   ·
    rw [if_pos c6] at H
    have c6b0 : decide (a1 < (y340.length : Int)) = true := decide_eq_true c6
    clear c6
    obtain ⟨y343, hy343⟩ : ∃ y_ : List (S86), y_ = (y340.set (a1 : Int).toNat (⟨a2_0, a2_1, a2_2, a2_3⟩ : S86)) := ⟨_, rfl⟩
    replace H : (some (a0_0, y343)) = some (r1, r2) := by first | (rw [hy343]; with_reducible exact H) | (have H2_ := (Option.bind_some _ _).symm.trans H; rw [hy343]; with_reducible exact H2_) | (have H2_ := (Option.bind_some _ _).symm.trans H; with_reducible exact H2_) | with_reducible exact H | (rw [hy343]; exact H) | exact H
    have Ny343 := zA hy343
    clear hy343
    simp only [Option.some.injEq, Prod.mk.injEq] at H
    obtain ⟨rfl, rfl⟩ := H
    go_enter Try.func60, Try.ntmps60
    go_wp2_with (first | ((with_reducible refine zaw (N := 3) rfl ?_); refine zar ?hg (N := 3) ?hd (cs := #[.int .i64 a0_0, .slice A0_1 l0_1.length c0_1]) (t := 39) ?hr ?_; (case hd => rfl); (case hg => rfl); (case hr => first | (go_simp; done) | (go_simp; rfl)); intro gb334 hg w8 hbox hb; have n0_ := zA (zai (zB HB) hb); have n1_ := zA (hbox); have n2_ := zA ((by rw [hg]; exact (zah (zB HB)) : w.heap.size ≤ gb334)); have n3_ := zA ((by rw [hg]; exact (zah (zB HB)) : w.heap.size ≤ gb334)); clear HB; have HB := n0_; have BK334 := n1_; have GW334 := n2_; have GE334 := n3_; clear n0_ n1_ n2_ n3_ hb hbox hg) | ((with_reducible refine zaw (N := 5) rfl ?_); refine zar ?hg (N := 5) ?hd (cs := #[.int .i64 a2_0, .int .i64 a2_1, .int .i64 a2_2, .int .i64 a2_3]) (t := 86) ?hr ?_; (case hd => rfl); (case hg => rfl); (case hr => first | (go_simp; done) | (go_simp; rfl)); intro gb335 hg w9 hbox hb; have n0_ := zA (zan (g := gb334) (o := .cells #[.int .i64 a0_0, .slice A0_1 l0_1.length c0_1] 39 (0, 0)) (zK BK334) hb); have n1_ := zA (zai (zB HB) hb); have n2_ := zA (hbox); have n3_ := zA ((by rw [hg]; exact (zah (zB HB)) : w.heap.size ≤ gb335)); have n4_ := zA ((by rw [hg]; exact (zah (zB HB)) : w.heap.size ≤ gb335)); have n5_ := zA ((by rw [hg]; exact Nat.ne_of_lt (zak (g := gb334) (o := .cells #[.int .i64 a0_0, .slice A0_1 l0_1.length c0_1] 39 (0, 0)) (zK BK334)) : gb334 ≠ gb335)); have n6_ := zA ((by rw [hg]; exact Nat.ne_of_gt (zak (g := gb334) (o := .cells #[.int .i64 a0_0, .slice A0_1 l0_1.length c0_1] 39 (0, 0)) (zK BK334)) : gb335 ≠ gb334)); clear BK334 HB; have BK334 := n0_; have HB := n1_; have BK335 := n2_; have GW335 := n3_; have GE335 := n4_; have NB334_335 := n5_; have NB335_334 := n6_; clear n0_ n1_ n2_ n3_ n4_ n5_ n6_ hb hbox hg) | ((with_reducible refine zaw (N := 6) rfl ?_); refine zar ?hg (N := 6) ?hd (cs := #[.int .i64 0, .slice none 0 0]) (t := 39) ?hr ?_; (case hd => rfl); (case hg => rfl); (case hr => first | (go_simp; done) | (go_simp; rfl)); intro gb336 hg w10 hbox hb; have n0_ := zA (zan (g := gb334) (o := .cells #[.int .i64 a0_0, .slice A0_1 l0_1.length c0_1] 39 (0, 0)) (zK BK334) hb); have n1_ := zA (zan (g := gb335) (o := .cells #[.int .i64 a2_0, .int .i64 a2_1, .int .i64 a2_2, .int .i64 a2_3] 86 (0, 0)) (zK BK335) hb); have n2_ := zA (zai (zB HB) hb); have n3_ := zA (hbox); have n4_ := zA ((by rw [hg]; exact (zah (zB HB)) : w.heap.size ≤ gb336)); have n5_ := zA ((by rw [hg]; exact (zah (zB HB)) : w.heap.size ≤ gb336)); have n6_ := zA ((by rw [hg]; exact Nat.ne_of_lt (zak (g := gb334) (o := .cells #[.int .i64 a0_0, .slice A0_1 l0_1.length c0_1] 39 (0, 0)) (zK BK334)) : gb334 ≠ gb336)); have n7_ := zA ((by rw [hg]; exact Nat.ne_of_gt (zak (g := gb334) (o := .cells #[.int .i64 a0_0, .slice A0_1 l0_1.length c0_1] 39 (0, 0)) (zK BK334)) : gb336 ≠ gb334)); have n8_ := zA ((by rw [hg]; exact Nat.ne_of_lt (zak (g := gb335) (o := .cells #[.int .i64 a2_0, .int .i64 a2_1, .int .i64 a2_2, .int .i64 a2_3] 86 (0, 0)) (zK BK335)) : gb335 ≠ gb336)); have n9_ := zA ((by rw [hg]; exact Nat.ne_of_gt (zak (g := gb335) (o := .cells #[.int .i64 a2_0, .int .i64 a2_1, .int .i64 a2_2, .int .i64 a2_3] 86 (0, 0)) (zK BK335)) : gb336 ≠ gb335)); clear BK334 BK335 HB; have BK334 := n0_; have BK335 := n1_; have HB := n2_; have BK336 := n3_; have GW336 := n4_; have GE336 := n5_; have NB334_336 := n6_; have NB336_334 := n7_; have NB335_336 := n8_; have NB336_335 := n9_; clear n0_ n1_ n2_ n3_ n4_ n5_ n6_ n7_ n8_ n9_ hb hbox hg) | ((with_reducible refine zaw (N := 8) rfl ?_); refine Kd.R_lit k86 _ 86 ?hg (N := 8) ?hd (xs := ([] : List (S86))) (inner := []) (ok := fun _ => True) (okp := fun _ => True) ?hr ?hp (fun _ hk => hk) trivial (Below.refl _ _) (Nat.le_refl _) (by simp) ?_; (case hd => rfl); (case hg => rfl); (case hr => first | (go_simp; done) | (go_simp; rfl)); (case hp => exact (Reps.none _ _)); intro v338 w11 ho12 hb hg_ hnew_; clear hg_ hnew_; (first | rw [← Ny337.out] at ho12 | (simp only [Int.reduceToNat] at ho12; rw [← Ny337.out] at ho12)); have n0_ := zA (Kd.R_lower (Kd.R_newB ho12 (g := gb335) (o := .cells #[.int .i64 a2_0, .int .i64 a2_1, .int .i64 a2_2, .int .i64 a2_3] 86 (0, 0)) (zK BK335)) (zah (zB HB))); have n1_ := zA (zan (g := gb334) (o := .cells #[.int .i64 a0_0, .slice A0_1 l0_1.length c0_1] 39 (0, 0)) (zK BK334) hb); have n2_ := zA (zan (g := gb335) (o := .cells #[.int .i64 a2_0, .int .i64 a2_1, .int .i64 a2_2, .int .i64 a2_3] 86 (0, 0)) (zK BK335) hb); have n3_ := zA (zan (g := gb336) (o := .cells #[.int .i64 0, .slice none 0 0] 39 (0, 0)) (zK BK336) hb); have n4_ := zA (zai (zB HB) hb); clear BK334 BK335 BK336 HB; have HO339 := n0_; have BK334 := n1_; have BK335 := n2_; have BK336 := n3_; have HB := n4_; clear n0_ n1_ n2_ n3_ n4_ hb ho12; have hnb13 := NB334_335.out; have hnc13 := NB335_334.out; have hnb14 := NB334_336.out; have hnc14 := NB336_334.out; have hcz15_0 : w11.cell? ⟨gb334, 0, none⟩ = some (.int .i64 a0_0) := (za BK334.out 0).trans rfl; have hcz15_1 : w11.cell? ⟨gb334, 1, none⟩ = some (.slice A0_1 l0_1.length c0_1) := (za BK334.out 1).trans rfl; have hfz15_0 := zaa BK334.out 0; have hfz15_1 := zaa BK334.out 1) | ((with_reducible refine gate_builtin (b := .append) (xs := #[.tmp 8, .tmp 10]) rfl ?_); at_builtin; refine Kd.R_append_rows k86 (w0 := w) w.heap.size rfl (.tmp 8) (.tmp 10) 37 86 (.agg #[(.int .i64 0), (.int .i64 0), (.int .i64 0), (.int .i64 0)]) 32 rfl Try.underlying37 info86 rfl (by decide) (by omega) v338 y337 l0_1 _ _ _ (fun k_ => k_ ≠ gb335) (fun _ => False) rfl rfl ?aO ?aR (fun _ _ h => h) (fun _ h => h.elim) ?aF ?aB ?aS ?aL ?_; (case aR => exact zJ (Kd.zbb HR0_1.out HB.out)); (case aB => exact (zB HB)); (case aF => exact (fun k_ hk => Kd.freshB (g := gb335) (o := .cells #[.int .i64 a2_0, .int .i64 a2_1, .int .i64 a2_2, .int .i64 a2_3] 86 (0, 0)) (zK BK335) k_ hk)); (case aO => exact (by (with_reducible repeat (first | apply Kd.R_alloc | apply Kd.R_drewN | apply Kd.R_drew)); exact Kd.zbs HO339.out (fun _ hk => hk.2))); (case aS => exact (zah (zB HB))); (case aL => have := LMc4.out; omega); intro v341 w16 ho hb hg hat; rw [← Ny340.out] at ho; have n0_ := zA (zat (g := gb334) (o := .cells #[.int .i64 a0_0, .slice A0_1 l0_1.length c0_1] 39 (0, 0)) (zK BK334) hg (Kd.R_ne HO339.out BK334.out (by decide))); have n1_ := zA (zat (g := gb335) (o := .cells #[.int .i64 a2_0, .int .i64 a2_1, .int .i64 a2_2, .int .i64 a2_3] 86 (0, 0)) (zK BK335) hg (Kd.R_away HO339.out (fun _ hk => hk.2))); have n2_ := zA (zat (g := gb336) (o := .cells #[.int .i64 0, .slice none 0 0] 39 (0, 0)) (zK BK336) hg (Kd.R_ne HO339.out BK336.out (by decide))); have n3_ := zA (hb); have n4_ := zA (ho); clear BK334 BK335 BK336 HB HO339; have BK334 := n0_; have BK335 := n1_; have BK336 := n2_; have HB := n3_; have HO342 := n4_; clear n0_ n1_ n2_ n3_ n4_ ho hb hg hat; have hnb17 := NB335_336.out; have hnc17 := NB336_335.out; have hcz18_0 : w16.cell? ⟨gb335, 0, none⟩ = some (.int .i64 a2_0) := (za BK335.out 0).trans rfl; have hcz18_1 : w16.cell? ⟨gb335, 1, none⟩ = some (.int .i64 a2_1) := (za BK335.out 1).trans rfl; have hcz18_2 : w16.cell? ⟨gb335, 2, none⟩ = some (.int .i64 a2_2) := (za BK335.out 2).trans rfl; have hcz18_3 : w16.cell? ⟨gb335, 3, none⟩ = some (.int .i64 a2_3) := (za BK335.out 3).trans rfl; have hfz18_0 := zaa BK335.out 0; have hfz18_1 := zaa BK335.out 1; have hfz18_2 := zaa BK335.out 2; have hfz18_3 := zaa BK335.out 3; have p7 : 0 ≤ (a1 : Int) := of_decide_eq_true (by first | (with_reducible assumption) | assumption); have q7 : (a1 : Int) < ((y340.length : Int) : Int) := of_decide_eq_true (by first | (with_reducible assumption) | assumption); obtain ⟨go7, co7, eo7, gb7, gl7, cl7, HG7⟩ := Kd.R_form HO342.out (by omega); (first | cases eo7 | (injection eo7 with ea_ en_ ec_; (first | subst ea_ | (injection ea_ with ea_; subst ea_)); subst ec_; clear en_)); have GB7 := zA gb7; have GG7 := zA HG7; clear gb7 gl7 HG7; obtain ⟨ce7, hcl7, hM7, hcc7, hfr7⟩ := Kd.R_elem HO342.out z86 (a1 : Int) p7 q7; obtain rfl := k86_openM hM7; have hx7_0 : w16.cell? ⟨go7, (a1 : Int).toNat * 4, none⟩ = some (.int .i64 ((rd_T86 y340 a1).f0)) := hcc7 0 _ rfl; have hx7_1 : w16.cell? ⟨go7, (a1 : Int).toNat * 4 + 1, none⟩ = some (.int .i64 ((rd_T86 y340 a1).f1)) := hcc7 1 _ rfl; have hx7_2 : w16.cell? ⟨go7, (a1 : Int).toNat * 4 + 2, none⟩ = some (.int .i64 ((rd_T86 y340 a1).f2)) := hcc7 2 _ rfl; have hx7_3 : w16.cell? ⟨go7, (a1 : Int).toNat * 4 + 3, none⟩ = some (.int .i64 ((rd_T86 y340 a1).f3)) := hcc7 3 _ rfl; have hf7_0 : w16.frozen? ⟨go7, (a1 : Int).toNat * 4, none⟩ = false := hfr7 0; have hf7_1 : w16.frozen? ⟨go7, (a1 : Int).toNat * 4 + 1, none⟩ = false := hfr7 1; have hf7_2 : w16.frozen? ⟨go7, (a1 : Int).toNat * 4 + 2, none⟩ = false := hfr7 2; have hf7_3 : w16.frozen? ⟨go7, (a1 : Int).toNat * 4 + 3, none⟩ = false := hfr7 3; clear hcl7 hcc7 hfr7 hM7; replace p7 := eq_true p7; replace q7 := eq_true q7; have HX19 := zA (show Kd.R k86 86 w16 w.heap.size (fun k_ => k_ ≠ gb335) (.slice (some ⟨go7, 0, none⟩) y340.length co7) y340 from (zR HO342)); obtain ⟨ce19, hcl19, hM19, hcc19, hfr19⟩ := Kd.R_elem HX19.out z86 (a1 : Int) (of_decide_eq_true (by first | (with_reducible assumption) | assumption)) (by have h_ : (a1 : Int) < ((y340.length : Int) : Int) := of_decide_eq_true (by first | (with_reducible assumption) | assumption); first | exact h_ | (have e_ := (Kd.zbe HO342.out).1; omega) | simpa using h_); obtain rfl := k86_openM hM19; have HP19 := Kd.R_seg HX19.out (a1 : Int) (of_decide_eq_true (by first | (with_reducible assumption) | assumption)) (by have h_ : (a1 : Int) < ((y340.length : Int) : Int) := of_decide_eq_true (by first | (with_reducible assumption) | assumption); first | exact h_ | (have e_ := (Kd.zbe HO342.out).1; omega) | simpa using h_) (seg := [.int .i64 a2_0, .int .i64 a2_1, .int .i64 a2_2, .int .i64 a2_3]) (j := 0) hcl19 hcc19 (show 4 ≤ 4 from by decide) (x' := (⟨a2_0, a2_1, a2_2, a2_3⟩ : S86)) (k86_mkM _ _ _ (⟨a2_0, a2_1, a2_2, a2_3⟩ : S86) ) (fun _ hk => hk); have hx19_0 := hcc19 0 _ rfl; (try simp only [show (k86).sz = 4 from rfl, Nat.mul_one, Nat.add_zero] at hx19_0); have hf19_0 := hfr19 0; (try simp only [show (k86).sz = 4 from rfl, Nat.mul_one, Nat.add_zero] at hf19_0); have hx19_1 := hcc19 1 _ rfl; (try simp only [show (k86).sz = 4 from rfl, Nat.mul_one, Nat.add_zero] at hx19_1); have hf19_1 := hfr19 1; (try simp only [show (k86).sz = 4 from rfl, Nat.mul_one, Nat.add_zero] at hf19_1); have hx19_2 := hcc19 2 _ rfl; (try simp only [show (k86).sz = 4 from rfl, Nat.mul_one, Nat.add_zero] at hx19_2); have hf19_2 := hfr19 2; (try simp only [show (k86).sz = 4 from rfl, Nat.mul_one, Nat.add_zero] at hf19_2); have hx19_3 := hcc19 3 _ rfl; (try simp only [show (k86).sz = 4 from rfl, Nat.mul_one, Nat.add_zero] at hx19_3); have hf19_3 := hfr19 3; (try simp only [show (k86).sz = 4 from rfl, Nat.mul_one, Nat.add_zero] at hf19_3); clear hcl19 hcc19 hfr19 hM19) | ((with_reducible refine gate_store (t := 86) (p := 15) rfl ?_); refine store_event (t := 86) (p := 15) (v := ?vo_w20) (w1 := ((((w16.setCell ⟨go7, (a1 : Int).toNat * 4, none⟩ (.int .i64 a2_0)).setCell ⟨go7, (a1 : Int).toNat * 4 + 1, none⟩ (.int .i64 a2_1)).setCell ⟨go7, (a1 : Int).toNat * 4 + 2, none⟩ (.int .i64 a2_2)).setCell ⟨go7, (a1 : Int).toNat * 4 + 3, none⟩ (.int .i64 a2_3))) ?hg ?ho ?hn ?hr ?_; (case ho => rfl); (case hg => rfl); (case hn => rfl); (case hr => first | (go_simp; done) | (go_simp; rfl)); intro w20 hw; have hg : w16.grownBy w20 (some go7) := (by rw [hw]; exact HP19.2); have hp_ : Kd.R k86 86 w20 w.heap.size (fun k_ => k_ ≠ gb335) (.slice (some ⟨go7, 0, none⟩) y340.length co7) y343 := (by rw [hw, Ny343.out]; exact HP19.1); clear HP19; have n0_ := zA (zat (g := gb334) (o := .cells #[.int .i64 a0_0, .slice A0_1 l0_1.length c0_1] 39 (0, 0)) (zK BK334) hg (Kd.R_ne HO342.out BK334.out (by decide))); have n1_ := zA (zat (g := gb335) (o := .cells #[.int .i64 a2_0, .int .i64 a2_1, .int .i64 a2_2, .int .i64 a2_3] 86 (0, 0)) (zK BK335) hg (Kd.R_away HO342.out (fun _ hk => hk))); have n2_ := zA (zat (g := gb336) (o := .cells #[.int .i64 0, .slice none 0 0] 39 (0, 0)) (zK BK336) hg (Kd.R_ne HO342.out BK336.out (by decide))); have n3_ := zA (hp_); have n4_ := zA ((by rw [hw]; exact below_set (below_set (below_set (below_set (HB.out) GB7.out) GB7.out) GB7.out) GB7.out : Below w.heap.size w w20)); clear BK334 BK335 BK336 HO342 HB; have BK334 := n0_; have BK335 := n1_; have BK336 := n2_; have HO342 := n3_; have HB := n4_; clear n0_ n1_ n2_ n3_ n4_ hg hw hp_; have hcz21_0 : w20.cell? ⟨gb334, 0, none⟩ = some (.int .i64 a0_0) := (za BK334.out 0).trans rfl; have hcz21_1 : w20.cell? ⟨gb334, 1, none⟩ = some (.slice A0_1 l0_1.length c0_1) := (za BK334.out 1).trans rfl; have hfz21_0 := zaa BK334.out 0; have hfz21_1 := zaa BK334.out 1; have hcz22_0 : w20.cell? ⟨gb336, 0, none⟩ = some (.int .i64 0) := (za BK336.out 0).trans rfl; have hcz22_1 : w20.cell? ⟨gb336, 1, none⟩ = some (.slice none 0 0) := (za BK336.out 1).trans rfl; have hfz22_0 := zaa BK336.out 0; have hfz22_1 := zaa BK336.out 1))
    refine bodyPost_ret (results_cell_row rfl _ _ gb336 39 #[.int .i64 a0_0, .slice (some ⟨go7, 0, none⟩) y340.length co7] (0, 0) _ rfl (by (with_reducible repeat (first | refine zaj ?_ _ | refine zaf ?_ | refine zac ?_ _)); refine zal (cs := #[.int .i64 a0_0, .slice none 0 0]) ?_ 1 _ rfl; (with_reducible repeat (first | refine zaj ?_ _ | refine zaf ?_ | refine zac ?_ _)); refine zal (cs := #[.int .i64 0, .slice none 0 0]) ?_ 0 _ rfl; (with_reducible repeat (first | refine zaj ?_ _ | refine zaf ?_ | refine zac ?_ _)); exact BK336.out) Try.underlying39 rfl (by kernel_rfl)) rfl ?_
    exact ⟨_, zW, by (with_reducible repeat (first | apply Kd.R_alloc | apply Kd.R_drewN | apply Kd.R_drew)); exact Kd.zbs (Kd.R_far (p := ⟨gb336, 1, none⟩) (Kd.R_far (p := ⟨gb336, 0, none⟩) (Kd.R_types HO342.out BK336.out (by decide)) (fun _ hk => hk.2) (.int .i64 a0_0)) (fun _ hk => hk.2) (.slice (some ⟨go7, 0, none⟩) y340.length co7)) (fun _ hk => trivial), zB HB⟩
   ·
    rw [if_neg c6] at H
    exact absurd H (by simp)
  ·
   rw [if_neg c5] at H
   exact absurd H (by simp)
 ·
  rw [if_neg c4] at H
  exact absurd H (by simp)
def zas.l0 : Nat → Int → Int → Int → List (S86) → Option (Bool)
 | 0, _, _, _, _ => none
 | k + 1, x6, x7, x232000, x232001 => if x7 < x6 then (if 0 ≤ x7 then (if x7 < (x232001.length : Int) then (if ((rd_T86 x232001 x7).f1) = x232000 then (some true) else (zas.l0 k x6 (wrap64 (x7 + 1)) x232000 x232001)) else (none)) else (none)) else (some false)
def zas.f (k : Nat) (a0_0 : Int) (l0_1 : List (S86)) : Option (Bool) := zas.l0 k (l0_1.length : Int) 0 a0_0 l0_1
theorem zas.calls (k : Nat) (a0_0 : Int) (A0_1 : Option Addr) (c0_1 : Nat) (l0_1 : List (S86)) (r : Bool) (w : World) (hr0_1 : Kd.C k86 w A0_1 l0_1.length l0_1) (hc0_1 : l0_1.length ≤ c0_1) (h : zas.f k a0_0 l0_1 = some r) :
  Calls Try.prog 51 #[.agg #[.int .i64 a0_0, .slice A0_1 l0_1.length c0_1]] w fun e w' => e = .returned (.bool r) ∧ Below w.heap.size w w' := by
 have hu39 := Try.underlying39
 have HR0_1 := zA hr0_1
 have HC0_1 := zA hc0_1
 clear hr0_1 hc0_1
 have HB := zA (Below.refl w.heap.size w)
 have H : (zas.l0 k (l0_1.length : Int) 0 a0_0 l0_1) = some r := h
 clear h
 have H' := zA H
 clear H
 go_enter Try.func51, Try.ntmps51
 go_wp2_with (first | ((with_reducible refine zaw (N := 1) rfl ?_); refine zar ?hg (N := 1) ?hd (cs := #[.int .i64 a0_0, .slice A0_1 l0_1.length c0_1]) (t := 39) ?hr ?_; (case hd => rfl); (case hg => rfl); (case hr => first | (go_simp; done) | (go_simp; rfl)); intro gb231 hg w2 hbox hb; have n0_ := zA (zai (zB HB) hb); have n1_ := zA (hbox); have n2_ := zA ((by rw [hg]; exact (zah (zB HB)) : w.heap.size ≤ gb231)); have n3_ := zA ((by rw [hg]; exact (zah (zB HB)) : w.heap.size ≤ gb231)); clear HB; have HB := n0_; have BK231 := n1_; have GW231 := n2_; have GE231 := n3_; clear n0_ n1_ n2_ n3_ hb hbox hg; have hcz3_0 : w2.cell? ⟨gb231, 0, none⟩ = some (.int .i64 a0_0) := (za BK231.out 0).trans rfl; have hcz3_1 : w2.cell? ⟨gb231, 1, none⟩ = some (.slice A0_1 l0_1.length c0_1) := (za BK231.out 1).trans rfl; have hfz3_0 := zaa BK231.out 0; have hfz3_1 := zaa BK231.out 1))
 repeat (go_quiet (first | ((with_reducible refine zaw (N := 1) rfl ?_); refine zar ?hg (N := 1) ?hd (cs := #[.int .i64 a0_0, .slice A0_1 l0_1.length c0_1]) (t := 39) ?hr ?_; (case hd => rfl); (case hg => rfl); (case hr => first | (go_simp; done) | (go_simp; rfl)); intro gb231 hg w2 hbox hb; have n0_ := zA (zai (zB HB) hb); have n1_ := zA (hbox); have n2_ := zA ((by rw [hg]; exact (zah (zB HB)) : w.heap.size ≤ gb231)); have n3_ := zA ((by rw [hg]; exact (zah (zB HB)) : w.heap.size ≤ gb231)); clear HB; have HB := n0_; have BK231 := n1_; have GW231 := n2_; have GE231 := n3_; clear n0_ n1_ n2_ n3_ hb hbox hg; have hcz3_0 : w2.cell? ⟨gb231, 0, none⟩ = some (.int .i64 a0_0) := (za BK231.out 0).trans rfl; have hcz3_1 : w2.cell? ⟨gb231, 1, none⟩ = some (.slice A0_1 l0_1.length c0_1) := (za BK231.out 1).trans rfl; have hfz3_0 := zaa BK231.out 0; have hfz3_1 := zaa BK231.out 1)); try go_wp2_with (first | ((with_reducible refine zaw (N := 1) rfl ?_); refine zar ?hg (N := 1) ?hd (cs := #[.int .i64 a0_0, .slice A0_1 l0_1.length c0_1]) (t := 39) ?hr ?_; (case hd => rfl); (case hg => rfl); (case hr => first | (go_simp; done) | (go_simp; rfl)); intro gb231 hg w2 hbox hb; have n0_ := zA (zai (zB HB) hb); have n1_ := zA (hbox); have n2_ := zA ((by rw [hg]; exact (zah (zB HB)) : w.heap.size ≤ gb231)); have n3_ := zA ((by rw [hg]; exact (zah (zB HB)) : w.heap.size ≤ gb231)); clear HB; have HB := n0_; have BK231 := n1_; have GW231 := n2_; have GE231 := n3_; clear n0_ n1_ n2_ n3_ hb hbox hg; have hcz3_0 : w2.cell? ⟨gb231, 0, none⟩ = some (.int .i64 a0_0) := (za BK231.out 0).trans rfl; have hcz3_1 : w2.cell? ⟨gb231, 1, none⟩ = some (.slice A0_1 l0_1.length c0_1) := (za BK231.out 1).trans rfl; have hfz3_0 := zaa BK231.out 0; have hfz3_1 := zaa BK231.out 1)))
 go_loopg [7] k (fun kq v7 w' => ∃ (x7_1 : Int), v7 = .int .i64 x7_1 ∧ Aside0 (zas.l0 kq (l0_1.length : Int) x7_1 a0_0 l0_1 = some r) ∧ Aside0 (kq ≤ k) ∧ Aside0 (w'.heap[gb231]? = some (.cells #[.int .i64 a0_0, (.slice A0_1 l0_1.length c0_1)] 39 (0, 0))) ∧ Aside0 (Below w.heap.size w w'))
 case atStart => exact ⟨(0), (zF), H', ⟨Nat.le_refl _⟩, ⟨zK BK231⟩, ⟨zB HB⟩⟩
 case round =>
  clear H'
  try clear p2
  try clear hcz3_0
  try clear hcz3_1
  try clear hfz3_0
  try clear hfz3_1
  obtain ⟨x7_1, rfl, HA, HK1, BK231, HB⟩ := hrel
  cases gk with
  | zero => exact absurd HA.out (by simp [zas.l0])
  | succ k1 =>
   have H := HA.out
   clear HA
   simp only [zas.l0] at H
   by_cases c4 : x7_1 < (l0_1.length : Int)
   ·
    rw [if_pos c4] at H
    have c4b0 : decide (x7_1 < (l0_1.length : Int)) = true := decide_eq_true c4
    clear c4
    by_cases c5 : 0 ≤ x7_1
    ·
     rw [if_pos c5] at H
     have c5b0 : decide (0 ≤ x7_1) = true := decide_eq_true c5
     clear c5
     by_cases c6 : x7_1 < (l0_1.length : Int)
     ·
      rw [if_pos c6] at H
      have c6b0 : decide (x7_1 < (l0_1.length : Int)) = true := decide_eq_true c6
      clear c6
      by_cases c7 : ((rd_T86 l0_1 x7_1).f1) = a0_0
      ·
       rw [if_pos c7] at H
       have c7b0 : (((rd_T86 l0_1 x7_1).f1) == a0_0) = true := beq_iff_eq.mpr c7
       have c7b1 : (((rd_T86 l0_1 x7_1).f1) != a0_0) = false := bne_eq_false_iff_eq.mpr c7
       clear c7
       obtain rfl := Option.some.inj H
       have hcz8_0 : wr.cell? ⟨gb231, 0, none⟩ = some (.int .i64 a0_0) := (za BK231.out 0).trans rfl
       have hcz8_1 : wr.cell? ⟨gb231, 1, none⟩ = some (.slice A0_1 l0_1.length c0_1) := (za BK231.out 1).trans rfl
       have hfz8_0 := zaa BK231.out 0
       have hfz8_1 := zaa BK231.out 1
       have p232 : 0 ≤ (x7_1 : Int) := of_decide_eq_true (by first | (with_reducible assumption) | assumption)
       have q232 : x7_1 < (l0_1.length : Int) := of_decide_eq_true (by first | (with_reducible assumption) | assumption)
       obtain ⟨ad232, e232, hx232_0, hx232_1, hx232_2, hx232_3⟩ := at_T86 HR0_1.out x7_1 p232 q232
       cases e232
       replace hx232_0 := (HB.out.cell (World.block_lt_of_cell? w _ hx232_0)).trans hx232_0
       replace hx232_1 := (HB.out.cell (World.block_lt_of_cell? w _ hx232_1)).trans hx232_1
       replace hx232_2 := (HB.out.cell (World.block_lt_of_cell? w _ hx232_2)).trans hx232_2
       replace hx232_3 := (HB.out.cell (World.block_lt_of_cell? w _ hx232_3)).trans hx232_3
       replace p232 := eq_true p232
       replace q232 := eq_true q232
       go_wp2
       repeat (go_quiet (fail); try go_wp2)
       go_ret
       exact ⟨zW, zB HB⟩
      ·
       rw [if_neg c7] at H
       have c7b0 : (((rd_T86 l0_1 x7_1).f1) == a0_0) = false := beq_eq_false_iff_ne.mpr c7
       have c7b1 : (((rd_T86 l0_1 x7_1).f1) != a0_0) = true := bne_iff_ne.mpr c7
       have H' := zA H
       clear H
       have hcz9_0 : wr.cell? ⟨gb231, 0, none⟩ = some (.int .i64 a0_0) := (za BK231.out 0).trans rfl
       have hcz9_1 : wr.cell? ⟨gb231, 1, none⟩ = some (.slice A0_1 l0_1.length c0_1) := (za BK231.out 1).trans rfl
       have hfz9_0 := zaa BK231.out 0
       have hfz9_1 := zaa BK231.out 1
       have p232 : 0 ≤ (x7_1 : Int) := of_decide_eq_true (by first | (with_reducible assumption) | assumption)
       have q232 : x7_1 < (l0_1.length : Int) := of_decide_eq_true (by first | (with_reducible assumption) | assumption)
       obtain ⟨ad232, e232, hx232_0, hx232_1, hx232_2, hx232_3⟩ := at_T86 HR0_1.out x7_1 p232 q232
       cases e232
       replace hx232_0 := (HB.out.cell (World.block_lt_of_cell? w _ hx232_0)).trans hx232_0
       replace hx232_1 := (HB.out.cell (World.block_lt_of_cell? w _ hx232_1)).trans hx232_1
       replace hx232_2 := (HB.out.cell (World.block_lt_of_cell? w _ hx232_2)).trans hx232_2
       replace hx232_3 := (HB.out.cell (World.block_lt_of_cell? w _ hx232_3)).trans hx232_3
       replace p232 := eq_true p232
       replace q232 := eq_true q232
       go_wp2
       repeat (go_quiet (fail); try go_wp2)
       go_roundg k1
       case measure => have := HK1.out; omega
       case rel => exact ⟨(wrap64 (x7_1 + 1)), (zF), H', ⟨by have := HK1.out; omega⟩, ⟨zK BK231⟩, ⟨zB HB⟩⟩
     ·
      rw [if_neg c6] at H
      exact absurd H (by simp)
    ·
     rw [if_neg c5] at H
     exact absurd H (by simp)
   ·
    rw [if_neg c4] at H
    have c4b0 : decide (x7_1 < (l0_1.length : Int)) = false := decide_eq_false c4
    clear c4
    obtain rfl := Option.some.inj H
    go_wp2
    repeat (go_quiet (fail); try go_wp2)
    go_ret
    exact ⟨zW, zB HB⟩
end Go.Proofs.Ytbakdobjidjncaa.P
end
