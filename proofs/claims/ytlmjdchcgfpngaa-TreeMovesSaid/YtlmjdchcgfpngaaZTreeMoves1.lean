-- Written by a program of this session (wip/tools/shake.py) out of its own texts and of the kit's printed ones; not trusted: Lean checks it.
import Derived.Test.YtlmjdchcgfpngaaZTreeMoves0
set_option maxHeartbeats 8000000
set_option maxRecDepth 100000
set_option linter.unusedVariables false
set_option linter.unusedSimpArgs false
section
namespace Go.Proofs.Ytlmjdchcgfpngaa.P
open Go.RowKit Go.Proofs.YtlmjdchcgfpngaaW.PrintWords Go.Proofs.YtlmjdchcgfpngaaW.PrintLast Go.Proofs.YtlmjdchcgfpngaaW.PrintMore
attribute [local go_sem] zbo zbq zbz zbx zbi zbg zbr zbp
def errW : Option Int → Value
 | none => .nilIface
 | some c => .iface 0 (.int .i64 c)
theorem errW_none : errW none = .nilIface := rfl
theorem errW_some (c : Int) : errW (some c) = .iface 0 (.int .i64 c) := rfl
theorem info3 : (Try.prog.info? 3).map (fun i => (i.zero, i.size, i.bytes)) = some (some (.int .i64 0), 1, 8) := by kernel_rfl
theorem info84 : (Try.prog.info? 84).map (fun i => (i.zero, i.size, i.bytes)) = some (some (.agg #[(.int .i64 0), (.int .i64 0), (.int .i64 0), (.int .i64 0), (.int .i64 0)]), 5, 40) := by kernel_rfl
structure S84 where
 f0 : Int
 f1 : Int
 f2 : Int
 f3 : Int
 f4 : Int
def z84 : S84 := ⟨(0 : Int), (0 : Int), (0 : Int), (0 : Int), (0 : Int)⟩
def k84 : Kd S84 := Kd.iso (Kd.pair (Kd.int .i64) (Kd.pair (Kd.int .i64) (Kd.pair (Kd.int .i64) (Kd.pair (Kd.int .i64) (Kd.int .i64))))) (fun x : S84 => (x.f0, x.f1, x.f2, x.f3, x.f4))
theorem k84_open {w : World} {x : S84} {cs : List Value} (h : k84.K w x cs) : cs = [.int .i64 x.f0, .int .i64 x.f1, .int .i64 x.f2, .int .i64 x.f3, .int .i64 x.f4] := by
 obtain ⟨_, _, rfl, rfl, ⟨_, _, rfl, rfl, ⟨_, _, rfl, rfl, ⟨_, _, rfl, rfl, rfl⟩⟩⟩⟩ := h
 exact rfl
theorem k84_openM {w : World} {base : Nat} {ok : Nat → Prop} {x : S84} {cs : List Value} (h : k84.M w base ok x cs) : cs = [.int .i64 x.f0, .int .i64 x.f1, .int .i64 x.f2, .int .i64 x.f3, .int .i64 x.f4] := by
 obtain ⟨_, _, rfl, rfl, ⟨_, _, rfl, rfl, ⟨_, _, rfl, rfl, ⟨_, _, rfl, rfl, rfl⟩⟩⟩⟩ := h
 exact rfl
theorem k84_mkM (w : World) (base : Nat) (ok : Nat → Prop) (x : S84)  : k84.M w base ok x [.int .i64 x.f0, .int .i64 x.f1, .int .i64 x.f2, .int .i64 x.f3, .int .i64 x.f4] := ⟨[.int .i64 x.f0], [.int .i64 x.f1, .int .i64 x.f2, .int .i64 x.f3, .int .i64 x.f4], rfl, rfl, ⟨[.int .i64 x.f1], [.int .i64 x.f2, .int .i64 x.f3, .int .i64 x.f4], rfl, rfl, ⟨[.int .i64 x.f2], [.int .i64 x.f3, .int .i64 x.f4], rfl, rfl, ⟨[.int .i64 x.f3], [.int .i64 x.f4], rfl, rfl, rfl⟩⟩⟩⟩
def rd_T84 (xs : List S84) (i : Int) : S84 := xs.getD i.toNat z84
theorem at_T84 {w : World} {A : Option Addr} {n : Nat} {xs : List S84} (h : Kd.C k84 w A n xs) (i : Int) (h0 : 0 ≤ i) (h1 : i < n) : ∃ ad , A = some ad ∧ w.cell? (ad.add (i.toNat * 5)) = some (.int .i64 (rd_T84 xs i).f0) ∧ w.cell? ⟨(ad.add (i.toNat * 5)).block, (ad.add (i.toNat * 5)).off + 1, none⟩ = some (.int .i64 (rd_T84 xs i).f1) ∧ w.cell? ⟨(ad.add (i.toNat * 5)).block, (ad.add (i.toNat * 5)).off + 2, none⟩ = some (.int .i64 (rd_T84 xs i).f2) ∧ w.cell? ⟨(ad.add (i.toNat * 5)).block, (ad.add (i.toNat * 5)).off + 3, none⟩ = some (.int .i64 (rd_T84 xs i).f3) ∧ w.cell? ⟨(ad.add (i.toNat * 5)).block, (ad.add (i.toNat * 5)).off + 4, none⟩ = some (.int .i64 (rd_T84 xs i).f4) := by
 obtain ⟨ad, c, e, _, hK, hc0⟩ := Kd.C_get h z84 i h0 h1
 have hc : ∀ j u, c[j]? = some u → w.cell? (ad.add (i.toNat * 5 + j)) = some u := hc0
 obtain rfl := k84_open hK
 exact ⟨ad, e, hc 0 _ rfl, by rw [← add_field _ _ 1 (by omega)]; exact hc 1 _ rfl, by rw [← add_field _ _ 2 (by omega)]; exact hc 2 _ rfl, by rw [← add_field _ _ 3 (by omega)]; exact hc 3 _ rfl, by rw [← add_field _ _ 4 (by omega)]; exact hc 4 _ rfl⟩
def zb7.f (a0 : Int) : Option (Int × Int × (List (S84)) × Int) := if a0 < 1 then (some (0, 0, ([] : List (S84)), 14)) else (if a0 > 64 then (some (0, 0, ([] : List (S84)), 14)) else (some (a0, 0, ([] : List (S84)), 0)))
theorem zb7.calls (a0 : Int) (r1 : Int) (r2 : Int) (r3 : List (S84)) (r4 : Int) (w : World) (h : zb7.f a0 = some (r1, r2, r3, r4)) :
  Calls Try.prog 17 #[.int .i64 a0] w fun e w' => ∃ v2_ : Value, e = .returned (.tuple #[.agg #[.int .i64 r1, .int .i64 r2, v2_], .int .i64 r4]) ∧ Kd.R k84 84 w' w.heap.size (fun _ => True) v2_ r3 ∧ Below w.heap.size w w' := by
 have hu44 := Try.underlying44
 have HB := zA (Below.refl w.heap.size w)
 have H : (if a0 < 1 then (some (0, 0, ([] : List (S84)), 14)) else (if a0 > 64 then (some (0, 0, ([] : List (S84)), 14)) else (some (a0, 0, ([] : List (S84)), 0)))) = some (r1, r2, r3, r4) := h
 clear h
 by_cases c2 : a0 < 1
 ·
  rw [if_pos c2] at H
  have c2b0 : decide (a0 < 1) = true := decide_eq_true c2
  clear c2
  simp only [Option.some.injEq, Prod.mk.injEq] at H
  obtain ⟨rfl, rfl, rfl, rfl⟩ := H
  go_enter Try.func17, Try.ntmps17
  go_wp2_with (first | ((with_reducible refine za7 (N := 2) rfl ?_); refine za3 ?hg (N := 2) ?hd (cs := #[.int .i64 0, .int .i64 0, .slice none 0 0]) (t := 44) ?hr ?_; (case hd => rfl); (case hg => rfl); (case hr => first | (go_simp; done) | (go_simp; rfl)); intro gb223 hg w3 hbox hb; have n0_ := zA (zab (zB HB) hb); have n1_ := zA (hbox); have n2_ := zA ((by rw [hg]; exact (zaf (zB HB)) : w.heap.size ≤ gb223)); have n3_ := zA ((by rw [hg]; exact (zaf (zB HB)) : w.heap.size ≤ gb223)); clear HB; have HB := n0_; have BK223 := n1_; have GW223 := n2_; have GE223 := n3_; clear n0_ n1_ n2_ n3_ hb hbox hg; have hcz4_0 : w3.cell? ⟨gb223, 0, none⟩ = some (.int .i64 0) := (za BK223.out 0).trans rfl; have hcz4_1 : w3.cell? ⟨gb223, 1, none⟩ = some (.int .i64 0) := (za BK223.out 1).trans rfl; have hcz4_2 : w3.cell? ⟨gb223, 2, none⟩ = some (.slice none 0 0) := (za BK223.out 2).trans rfl; have hfz4_0 := zaa BK223.out 0; have hfz4_1 := zaa BK223.out 1; have hfz4_2 := zaa BK223.out 2))
  refine bodyPost_ret (zav rfl _ _ gb223 44 #[.int .i64 0, .int .i64 0, .slice none 0 0] (0, 0) _ rfl (by (with_reducible repeat (first | refine zao ?_ _ | refine zan ?_ | refine zac ?_ _)); refine zau (cs := #[.int .i64 0, .int .i64 0, .slice none 0 0]) ?_ 2 _ rfl; (with_reducible repeat (first | refine zao ?_ _ | refine zan ?_ | refine zac ?_ _)); refine zau (cs := #[.int .i64 0, .int .i64 0, .slice none 0 0]) ?_ 1 _ rfl; (with_reducible repeat (first | refine zao ?_ _ | refine zan ?_ | refine zac ?_ _)); refine zau (cs := #[.int .i64 0, .int .i64 0, .slice none 0 0]) ?_ 0 _ rfl; (with_reducible repeat (first | refine zao ?_ _ | refine zan ?_ | refine zac ?_ _)); exact BK223.out) Try.underlying44 rfl (by kernel_rfl)) rfl ?_
  exact ⟨_, zW, by first | exact Kd.R_nil _ _ _ _ _ | exact Kd.N_nil _ _ _ _ _ | exact Kd.V_nil _ _ _ _ _ | exact Kd.Q_nil _ _ _ _ _ | exact Kd.S_nil _ _ _ _ _, zB HB⟩
 ·
  rw [if_neg c2] at H
  have c2b0 : decide (a0 < 1) = false := decide_eq_false c2
  clear c2
  by_cases c5 : a0 > 64
  ·
   rw [if_pos c5] at H
   have c5b0 : decide (64 < a0) = true := decide_eq_true c5
   clear c5
   simp only [Option.some.injEq, Prod.mk.injEq] at H
   obtain ⟨rfl, rfl, rfl, rfl⟩ := H
   go_enter Try.func17, Try.ntmps17
   go_wp2_with (first | ((with_reducible refine za7 (N := 2) rfl ?_); refine za3 ?hg (N := 2) ?hd (cs := #[.int .i64 0, .int .i64 0, .slice none 0 0]) (t := 44) ?hr ?_; (case hd => rfl); (case hg => rfl); (case hr => first | (go_simp; done) | (go_simp; rfl)); intro gb223 hg w6 hbox hb; have n0_ := zA (zab (zB HB) hb); have n1_ := zA (hbox); have n2_ := zA ((by rw [hg]; exact (zaf (zB HB)) : w.heap.size ≤ gb223)); have n3_ := zA ((by rw [hg]; exact (zaf (zB HB)) : w.heap.size ≤ gb223)); clear HB; have HB := n0_; have BK223 := n1_; have GW223 := n2_; have GE223 := n3_; clear n0_ n1_ n2_ n3_ hb hbox hg; have hcz7_0 : w6.cell? ⟨gb223, 0, none⟩ = some (.int .i64 0) := (za BK223.out 0).trans rfl; have hcz7_1 : w6.cell? ⟨gb223, 1, none⟩ = some (.int .i64 0) := (za BK223.out 1).trans rfl; have hcz7_2 : w6.cell? ⟨gb223, 2, none⟩ = some (.slice none 0 0) := (za BK223.out 2).trans rfl; have hfz7_0 := zaa BK223.out 0; have hfz7_1 := zaa BK223.out 1; have hfz7_2 := zaa BK223.out 2))
   refine bodyPost_ret (zav rfl _ _ gb223 44 #[.int .i64 0, .int .i64 0, .slice none 0 0] (0, 0) _ rfl (by (with_reducible repeat (first | refine zao ?_ _ | refine zan ?_ | refine zac ?_ _)); refine zau (cs := #[.int .i64 0, .int .i64 0, .slice none 0 0]) ?_ 2 _ rfl; (with_reducible repeat (first | refine zao ?_ _ | refine zan ?_ | refine zac ?_ _)); refine zau (cs := #[.int .i64 0, .int .i64 0, .slice none 0 0]) ?_ 1 _ rfl; (with_reducible repeat (first | refine zao ?_ _ | refine zan ?_ | refine zac ?_ _)); refine zau (cs := #[.int .i64 0, .int .i64 0, .slice none 0 0]) ?_ 0 _ rfl; (with_reducible repeat (first | refine zao ?_ _ | refine zan ?_ | refine zac ?_ _)); exact BK223.out) Try.underlying44 rfl (by kernel_rfl)) rfl ?_
   exact ⟨_, zW, by first | exact Kd.R_nil _ _ _ _ _ | exact Kd.N_nil _ _ _ _ _ | exact Kd.V_nil _ _ _ _ _ | exact Kd.Q_nil _ _ _ _ _ | exact Kd.S_nil _ _ _ _ _, zB HB⟩
  ·
   rw [if_neg c5] at H
   have c5b0 : decide (64 < a0) = false := decide_eq_false c5
   clear c5
   simp only [Option.some.injEq, Prod.mk.injEq] at H
   obtain ⟨rfl, rfl, rfl, rfl⟩ := H
   go_enter Try.func17, Try.ntmps17
   go_wp2_with (first | ((with_reducible refine za7 (N := 2) rfl ?_); refine za3 ?hg (N := 2) ?hd (cs := #[.int .i64 0, .int .i64 0, .slice none 0 0]) (t := 44) ?hr ?_; (case hd => rfl); (case hg => rfl); (case hr => first | (go_simp; done) | (go_simp; rfl)); intro gb223 hg w8 hbox hb; have n0_ := zA (zab (zB HB) hb); have n1_ := zA (hbox); have n2_ := zA ((by rw [hg]; exact (zaf (zB HB)) : w.heap.size ≤ gb223)); have n3_ := zA ((by rw [hg]; exact (zaf (zB HB)) : w.heap.size ≤ gb223)); clear HB; have HB := n0_; have BK223 := n1_; have GW223 := n2_; have GE223 := n3_; clear n0_ n1_ n2_ n3_ hb hbox hg; have hcz9_0 : w8.cell? ⟨gb223, 0, none⟩ = some (.int .i64 0) := (za BK223.out 0).trans rfl; have hcz9_1 : w8.cell? ⟨gb223, 1, none⟩ = some (.int .i64 0) := (za BK223.out 1).trans rfl; have hcz9_2 : w8.cell? ⟨gb223, 2, none⟩ = some (.slice none 0 0) := (za BK223.out 2).trans rfl; have hfz9_0 := zaa BK223.out 0; have hfz9_1 := zaa BK223.out 1; have hfz9_2 := zaa BK223.out 2))
   refine bodyPost_ret (zav rfl _ _ gb223 44 #[.int .i64 a0, .int .i64 0, .slice none 0 0] (0, 0) _ rfl (by (with_reducible repeat (first | refine zao ?_ _ | refine zan ?_ | refine zac ?_ _)); refine zau (cs := #[.int .i64 a0, .int .i64 0, .slice none 0 0]) ?_ 2 _ rfl; (with_reducible repeat (first | refine zao ?_ _ | refine zan ?_ | refine zac ?_ _)); refine zau (cs := #[.int .i64 a0, .int .i64 0, .slice none 0 0]) ?_ 1 _ rfl; (with_reducible repeat (first | refine zao ?_ _ | refine zan ?_ | refine zac ?_ _)); refine zau (cs := #[.int .i64 0, .int .i64 0, .slice none 0 0]) ?_ 0 _ rfl; (with_reducible repeat (first | refine zao ?_ _ | refine zan ?_ | refine zac ?_ _)); exact BK223.out) Try.underlying44 rfl (by kernel_rfl)) rfl ?_
   exact ⟨_, zW, by first | exact Kd.R_nil _ _ _ _ _ | exact Kd.N_nil _ _ _ _ _ | exact Kd.V_nil _ _ _ _ _ | exact Kd.Q_nil _ _ _ _ _ | exact Kd.S_nil _ _ _ _ _, zB HB⟩
def zaz.l0 : Nat → List Int → List Int → Int → Int → Option (Bool)
 | 0, _, _, _, _ => none
 | k + 1, x0, x1, x12, x13 => if x13 < x12 then (if 0 ≤ x13 then (if x13 < (x0.length : Int) then (if x13 < (x1.length : Int) then (if (rd x0 x13) = (rd x1 x13) then (zaz.l0 k x0 x1 x12 (wrap64 (x13 + 1))) else (some false)) else (none)) else (none)) else (none)) else (some true)
def zaz.f (k : Nat) (l0 : List Int) (l1 : List Int) : Option (Bool) := if (l0.length : Int) = (l1.length : Int) then (zaz.l0 k l0 l1 (l0.length : Int) 0) else (some false)
theorem zaz.calls (k : Nat) (A0 : Option Addr) (c0 : Nat) (l0 : List Int) (A1 : Option Addr) (c1 : Nat) (l1 : List Int) (r : Bool) (w : World) (hr0 : Kd.C (Kd.int .i64) w A0 l0.length l0) (hc0 : l0.length ≤ c0) (hr1 : Kd.C (Kd.int .i64) w A1 l1.length l1) (hc1 : l1.length ≤ c1) (h : zaz.f k l0 l1 = some r) :
  Calls Try.prog 45 #[.slice A0 l0.length c0, .slice A1 l1.length c1] w fun e w' => e = .returned (.bool r) ∧ Drawn0 w w' := by
 have HR0 := zA hr0
 have HC0 := zA hc0
 clear hr0 hc0
 have HR1 := zA hr1
 have HC1 := zA hc1
 clear hr1 hc1
 have H : (if (l0.length : Int) = (l1.length : Int) then (zaz.l0 k l0 l1 (l0.length : Int) 0) else (some false)) = some r := h
 clear h
 by_cases c3 : (l0.length : Int) = (l1.length : Int)
 ·
  rw [if_pos c3] at H
  have c3b0 : ((l0.length : Int) == (l1.length : Int)) = true := beq_iff_eq.mpr c3
  have c3b1 : ((l0.length : Int) != (l1.length : Int)) = false := bne_eq_false_iff_eq.mpr c3
  have c3b2 : (l0.length == l1.length) = true := by first | simpa using c3 | (simp at c3 ⊢; omega)
  clear c3
  have H' := zA H
  clear H
  go_enter Try.func45, Try.ntmps45
  go_wp2
  repeat (go_quiet (fail); try go_wp2)
  go_loopg [13] k (fun kq v13 w' => ∃ (x13_1 : Int), v13 = .int .i64 x13_1 ∧ Aside0 (zaz.l0 kq l0 l1 (l0.length : Int) x13_1 = some r) ∧ Aside0 (kq ≤ k) ∧ Drawn0 w w')
  case atStart => exact ⟨(0), (zF), H', ⟨Nat.le_refl _⟩, by repeat (first | exact Drawn0.refl _ | apply Drawn0.step)⟩
  case round =>
   clear H'
   try clear c1
   try clear p2
   try clear c3
   try clear c3b0
   try clear c3b1
   try clear c3b2
   obtain ⟨x13_1, rfl, HA, HK1, ⟨m1, rfl⟩⟩ := hrel
   cases gk with
   | zero => exact absurd HA.out (by simp [zaz.l0])
   | succ k1 =>
    have H := HA.out
    clear HA
    simp only [zaz.l0] at H
    by_cases c4 : x13_1 < (l0.length : Int)
    ·
     rw [if_pos c4] at H
     have c4b0 : decide (x13_1 < (l0.length : Int)) = true := decide_eq_true c4
     clear c4
     by_cases c5 : 0 ≤ x13_1
     ·
      rw [if_pos c5] at H
      have c5b0 : decide (0 ≤ x13_1) = true := decide_eq_true c5
      clear c5
      by_cases c6 : x13_1 < (l0.length : Int)
      ·
       rw [if_pos c6] at H
       have c6b0 : decide (x13_1 < (l0.length : Int)) = true := decide_eq_true c6
       clear c6
       by_cases c7 : x13_1 < (l1.length : Int)
       ·
        rw [if_pos c7] at H
        have c7b0 : decide (x13_1 < (l1.length : Int)) = true := decide_eq_true c7
        clear c7
        by_cases c8 : (rd l0 x13_1) = (rd l1 x13_1)
        ·
         rw [if_pos c8] at H
         have c8b0 : ((rd l0 x13_1) == (rd l1 x13_1)) = true := beq_iff_eq.mpr c8
         have c8b1 : ((rd l0 x13_1) != (rd l1 x13_1)) = false := bne_eq_false_iff_eq.mpr c8
         clear c8
         have H' := zA H
         clear H
         have p369 : 0 ≤ (x13_1 : Int) := of_decide_eq_true (by first | (with_reducible assumption) | assumption)
         have q369 : x13_1 < (l0.length : Int) := of_decide_eq_true (by first | (with_reducible assumption) | assumption)
         obtain ⟨ad369, e369, hx369_0⟩ := Kd.at_int HR0.out x13_1 p369 q369
         cases e369
         replace p369 := eq_true p369
         replace q369 := eq_true q369
         have p370 : 0 ≤ (x13_1 : Int) := of_decide_eq_true (by first | (with_reducible assumption) | assumption)
         have q370 : x13_1 < (l1.length : Int) := of_decide_eq_true (by first | (with_reducible assumption) | assumption)
         obtain ⟨ad370, e370, hx370_0⟩ := Kd.at_int HR1.out x13_1 p370 q370
         cases e370
         replace p370 := eq_true p370
         replace q370 := eq_true q370
         go_wp2
         repeat (go_quiet (fail); try go_wp2)
         go_roundg k1
         case measure => have := HK1.out; omega
         case rel => exact ⟨(wrap64 (x13_1 + 1)), (zF), H', ⟨by have := HK1.out; omega⟩, by repeat (first | exact Drawn0.refl _ | apply Drawn0.step)⟩
        ·
         rw [if_neg c8] at H
         have c8b0 : ((rd l0 x13_1) == (rd l1 x13_1)) = false := beq_eq_false_iff_ne.mpr c8
         have c8b1 : ((rd l0 x13_1) != (rd l1 x13_1)) = true := bne_iff_ne.mpr c8
         obtain rfl := Option.some.inj H
         have p369 : 0 ≤ (x13_1 : Int) := of_decide_eq_true (by first | (with_reducible assumption) | assumption)
         have q369 : x13_1 < (l0.length : Int) := of_decide_eq_true (by first | (with_reducible assumption) | assumption)
         obtain ⟨ad369, e369, hx369_0⟩ := Kd.at_int HR0.out x13_1 p369 q369
         cases e369
         replace p369 := eq_true p369
         replace q369 := eq_true q369
         have p370 : 0 ≤ (x13_1 : Int) := of_decide_eq_true (by first | (with_reducible assumption) | assumption)
         have q370 : x13_1 < (l1.length : Int) := of_decide_eq_true (by first | (with_reducible assumption) | assumption)
         obtain ⟨ad370, e370, hx370_0⟩ := Kd.at_int HR1.out x13_1 p370 q370
         cases e370
         replace p370 := eq_true p370
         replace q370 := eq_true q370
         go_wp2
         repeat (go_quiet (fail); try go_wp2)
         go_ret
         exact ⟨zF, by repeat (first | exact Drawn0.refl _ | apply Drawn0.step)⟩
       ·
        rw [if_neg c7] at H
        exact absurd H (by simp)
      ·
       rw [if_neg c6] at H
       exact absurd H (by simp)
     ·
      rw [if_neg c5] at H
      exact absurd H (by simp)
    ·
     rw [if_neg c4] at H
     have c4b0 : decide (x13_1 < (l0.length : Int)) = false := decide_eq_false c4
     clear c4
     obtain rfl := Option.some.inj H
     go_wp2
     repeat (go_quiet (fail); try go_wp2)
     go_ret
     exact ⟨zF, by repeat (first | exact Drawn0.refl _ | apply Drawn0.step)⟩
 ·
  rw [if_neg c3] at H
  have c3b0 : ((l0.length : Int) == (l1.length : Int)) = false := beq_eq_false_iff_ne.mpr c3
  have c3b1 : ((l0.length : Int) != (l1.length : Int)) = true := bne_iff_ne.mpr c3
  have c3b2 : (l0.length == l1.length) = false := by first | simpa using c3 | (simp at c3 ⊢; omega)
  obtain rfl := Option.some.inj H
  go_enter Try.func45, Try.ntmps45
  go_wp2
  repeat (go_quiet (fail); try go_wp2)
  go_ret
  exact ⟨zF, by repeat (first | exact Drawn0.refl _ | apply Drawn0.step)⟩
def zax.f (a0_0 : Int) (a0_1 : Int) (l0_2 : List (S84)) (a1 : Int) (a2 : Int) : Option (Int × Int × (List (S84)) × Int) := (some (([] : List (S84)) : List (S84))).bind fun y226 => (if y226.length + l0_2.length < 3518437208883 then ((some (y226 ++ l0_2 : List (S84))).bind fun y229 => ((some (([(⟨wrap64 (a0_1 + 1), a1, a2, 0, 0⟩ : S84)] : List (S84)) : List (S84))).bind fun y232 => (if y229.length + y232.length < 3518437208883 then (some (a0_0, wrap64 (a0_1 + 1), (y229 ++ y232), wrap64 (a0_1 + 1))) else (none)))) else (none))
def zax.T2 : Bool × List (List Nat × List Nat) := (true, [([], []), ([0], [0]), ([], []), ([], []), ([], []), ([4], [4]), ([3, 5], [3, 5]), ([], []), ([], []), ([], []), ([7, 8, 9], [7, 8, 9]), ([10], [10]), ([6, 11, 6], [6, 11]), ([1, 2, 12], [1, 2, 12]), ([], []), ([13, 12, 0, 1, 2, 3, 4, 5, 6, 7, 8, 9, 10, 11, 12, 13], [13]), ([14, 15, 0, 1, 2, 3, 4, 5, 6, 7, 8, 9, 10, 11, 12, 13, 14, 15], [14])])
def zax.B2 : List Nat := [0, 1, 0, 0, 0, 16, 56, 0, 0, 0, 896, 1920, 4088, 8191, 0, 16383, 65535]
theorem zax.tab2 : rtab .any (opsOf Try.f54 2) = zax.T2 := by kernel_rfl
theorem zax.bits2 : waitsOk zax.T2.2 zax.B2 = true := by kernel_rfl
theorem zax.calls (a0_0 : Int) (a0_1 : Int) (A0_2 : Option Addr) (c0_2 : Nat) (l0_2 : List (S84)) (a1 : Int) (a2 : Int) (r1 : Int) (r2 : Int) (r3 : List (S84)) (r4 : Int) (w : World) (hr0_2 : Kd.C k84 w A0_2 l0_2.length l0_2) (hc0_2 : l0_2.length ≤ c0_2) (h : zax.f a0_0 a0_1 l0_2 a1 a2 = some (r1, r2, r3, r4)) :
  Calls Try.prog 54 #[.agg #[.int .i64 a0_0, .int .i64 a0_1, .slice A0_2 l0_2.length c0_2], .int .i64 a1, .int .i64 a2] w fun e w' => ∃ v2_ : Value, e = .returned (.tuple #[.agg #[.int .i64 r1, .int .i64 r2, v2_], .int .i64 r4]) ∧ Kd.R k84 84 w' w.heap.size (fun _ => True) v2_ r3 ∧ Below w.heap.size w w' := by
 have hu44 := Try.underlying44
 have hu84 := Try.underlying84
 have HR0_2 := zA hr0_2
 have HC0_2 := zA hc0_2
 clear hr0_2 hc0_2
 have HB := zA (Below.refl w.heap.size w)
 have H : ((some (([] : List (S84)) : List (S84))).bind fun y226 => (if y226.length + l0_2.length < 3518437208883 then ((some (y226 ++ l0_2 : List (S84))).bind fun y229 => ((some (([(⟨wrap64 (a0_1 + 1), a1, a2, 0, 0⟩ : S84)] : List (S84)) : List (S84))).bind fun y232 => (if y229.length + y232.length < 3518437208883 then (some (a0_0, wrap64 (a0_1 + 1), (y229 ++ y232), wrap64 (a0_1 + 1))) else (none)))) else (none))) = some (r1, r2, r3, r4) := h
 clear h
 obtain ⟨y226, hy226⟩ : ∃ y_ : List (S84), y_ = (([] : List (S84))) := ⟨_, rfl⟩
 replace H : (if y226.length + l0_2.length < 3518437208883 then ((some (y226 ++ l0_2 : List (S84))).bind fun y229 => ((some (([(⟨wrap64 (a0_1 + 1), a1, a2, 0, 0⟩ : S84)] : List (S84)) : List (S84))).bind fun y232 => (if y229.length + y232.length < 3518437208883 then (some (a0_0, wrap64 (a0_1 + 1), (y229 ++ y232), wrap64 (a0_1 + 1))) else (none)))) else (none)) = some (r1, r2, r3, r4) := by first | (rw [hy226]; with_reducible exact H) | (have H2_ := (Option.bind_some _ _).symm.trans H; rw [hy226]; with_reducible exact H2_) | (have H2_ := (Option.bind_some _ _).symm.trans H; with_reducible exact H2_) | with_reducible exact H | (rw [hy226]; exact H) | exact H
 have Ny226 := zA hy226
 clear hy226
 by_cases c4 : y226.length + l0_2.length < 3518437208883
 ·
  rw [if_pos c4] at H
  have LMc4 := zA c4
  clear c4
  obtain ⟨y229, hy229⟩ : ∃ y_ : List (S84), y_ = (y226 ++ l0_2) := ⟨_, rfl⟩
  replace H : ((some (([(⟨wrap64 (a0_1 + 1), a1, a2, 0, 0⟩ : S84)] : List (S84)) : List (S84))).bind fun y232 => (if y229.length + y232.length < 3518437208883 then (some (a0_0, wrap64 (a0_1 + 1), (y229 ++ y232), wrap64 (a0_1 + 1))) else (none))) = some (r1, r2, r3, r4) := by first | (rw [hy229]; with_reducible exact H) | (have H2_ := (Option.bind_some _ _).symm.trans H; rw [hy229]; with_reducible exact H2_) | (have H2_ := (Option.bind_some _ _).symm.trans H; with_reducible exact H2_) | with_reducible exact H | (rw [hy229]; exact H) | exact H
  have Ny229 := zA hy229
  clear hy229
  obtain ⟨y232, hy232⟩ : ∃ y_ : List (S84), y_ = (([(⟨wrap64 (a0_1 + 1), a1, a2, 0, 0⟩ : S84)] : List (S84))) := ⟨_, rfl⟩
  replace H : (if y229.length + y232.length < 3518437208883 then (some (a0_0, wrap64 (a0_1 + 1), (y229 ++ y232), wrap64 (a0_1 + 1))) else (none)) = some (r1, r2, r3, r4) := by first | (rw [hy232]; with_reducible exact H) | (have H2_ := (Option.bind_some _ _).symm.trans H; rw [hy232]; with_reducible exact H2_) | (have H2_ := (Option.bind_some _ _).symm.trans H; with_reducible exact H2_) | with_reducible exact H | (rw [hy232]; exact H) | exact H
  have Ny232 := zA hy232
  clear hy232
  by_cases c5 : y229.length + y232.length < 3518437208883
  ·
   rw [if_pos c5] at H
   have LMc5 := zA c5
   clear c5
   obtain ⟨y235, hy235⟩ : ∃ y_ : List (S84), y_ = (y229 ++ y232) := ⟨_, rfl⟩
   replace H : (some (a0_0, wrap64 (a0_1 + 1), y235, wrap64 (a0_1 + 1))) = some (r1, r2, r3, r4) := by first | (rw [hy235]; with_reducible exact H) | (have H2_ := (Option.bind_some _ _).symm.trans H; rw [hy235]; with_reducible exact H2_) | (have H2_ := (Option.bind_some _ _).symm.trans H; with_reducible exact H2_) | with_reducible exact H | (rw [hy235]; exact H) | exact H
   have Ny235 := zA hy235
   clear hy235
   simp only [Option.some.injEq, Prod.mk.injEq] at H
   obtain ⟨rfl, rfl, rfl, rfl⟩ := H
   go_enter Try.func54, Try.ntmps54
   try go_wp2_with (first | ((with_reducible refine za7 (N := 3) rfl ?_); refine za3 ?hg (N := 3) ?hd (cs := #[.int .i64 a0_0, .int .i64 a0_1, .slice A0_2 l0_2.length c0_2]) (t := 44) ?hr ?_; (case hd => rfl); (case hg => rfl); (case hr => first | (go_simp; done) | (go_simp; rfl)); intro gb224 hg w6 hbox hb; have n0_ := zA (zab (zB HB) hb); have n1_ := zA (hbox); have n2_ := zA ((by rw [hg]; exact (zaf (zB HB)) : w.heap.size ≤ gb224)); have n3_ := zA ((by rw [hg]; exact (zaf (zB HB)) : w.heap.size ≤ gb224)); clear HB; have HB := n0_; have BK224 := n1_; have GW224 := n2_; have GE224 := n3_; clear n0_ n1_ n2_ n3_ hb hbox hg) | ((with_reducible refine za7 (N := 6) rfl ?_); refine za3 ?hg (N := 6) ?hd (cs := #[.int .i64 0, .int .i64 0, .slice none 0 0]) (t := 44) ?hr ?_; (case hd => rfl); (case hg => rfl); (case hr => first | (go_simp; done) | (go_simp; rfl)); intro gb225 hg w7 hbox hb; have n0_ := zA (zam (g := gb224) (o := .cells #[.int .i64 a0_0, .int .i64 a0_1, .slice A0_2 l0_2.length c0_2] 44 (0, 0)) (zK BK224) hb); have n1_ := zA (zab (zB HB) hb); have n2_ := zA (hbox); have n3_ := zA ((by rw [hg]; exact (zaf (zB HB)) : w.heap.size ≤ gb225)); have n4_ := zA ((by rw [hg]; exact (zaf (zB HB)) : w.heap.size ≤ gb225)); have n5_ := zA ((by rw [hg]; exact Nat.ne_of_lt (zar (g := gb224) (o := .cells #[.int .i64 a0_0, .int .i64 a0_1, .slice A0_2 l0_2.length c0_2] 44 (0, 0)) (zK BK224)) : gb224 ≠ gb225)); have n6_ := zA ((by rw [hg]; exact Nat.ne_of_gt (zar (g := gb224) (o := .cells #[.int .i64 a0_0, .int .i64 a0_1, .slice A0_2 l0_2.length c0_2] 44 (0, 0)) (zK BK224)) : gb225 ≠ gb224)); clear BK224 HB; have BK224 := n0_; have HB := n1_; have BK225 := n2_; have GW225 := n3_; have GE225 := n4_; have NB224_225 := n5_; have NB225_224 := n6_; clear n0_ n1_ n2_ n3_ n4_ n5_ n6_ hb hbox hg; have hnb8 := NB224_225.out; have hnc8 := NB225_224.out; have hcz9_0 : w7.cell? ⟨gb224, 0, none⟩ = some (.int .i64 a0_0) := (za BK224.out 0).trans rfl; have hcz9_1 : w7.cell? ⟨gb224, 1, none⟩ = some (.int .i64 a0_1) := (za BK224.out 1).trans rfl; have hcz9_2 : w7.cell? ⟨gb224, 2, none⟩ = some (.slice A0_2 l0_2.length c0_2) := (za BK224.out 2).trans rfl; have hfz9_0 := zaa BK224.out 0; have hfz9_1 := zaa BK224.out 1; have hfz9_2 := zaa BK224.out 2))
   have n0_ := zA (zan BK224.out)
   have n1_ := zA (zan BK225.out)
   have n2_ := zA (zbf HB.out)
   clear BK224 BK225 HB
   have BK224 := n0_
   have BK225 := n1_
   have HB := n2_
   clear n0_ n1_ n2_
   refine start_ (n := 17) (S := fun w' => w'.cell? ⟨gb224, 0, none⟩ = some (.int .i64 a0_0) ∧ w'.cell? ⟨gb224, 1, none⟩ = some (.int .i64 a0_1) ∧ w'.cell? ⟨gb224, 2, none⟩ = some (.slice A0_2 l0_2.length c0_2)) (ds := []) #[false, false, false, false, false, false, false, false, false, false, false, false, false, false, false, false, false] (by kernel_rfl) rfl rfl ⟨(za BK224.out 0).trans rfl, (za BK224.out 1).trans rfl, (za BK224.out 2).trans rfl⟩ (fun hHeld => ?_); refine zbj zax.tab2 zax.bits2 (fun HT_ HW_ => ?_)
   generalize w7.drew = w10 at BK224 BK225 HB hHeld ⊢
   refine pure_ (i := 0) (N := some 12) (v := ?_) (a' := ?_) #[true, false, false, false, false, false, false, false, false, false, false, false, false, false, false, false, false] rfl rfl (zah HT_.out (by kernel_rfl)) (fun _ _ _ h => h) (Or.inl ⟨by rfl, ?_⟩) ?_ ?_
   rotate_left
   ·
    intro w'
    go_simp
    with_reducible rfl
   rotate_left
   ·
    simp only [Act.put, zs1, zs2, zs3, i64_w, i32_w]
    rfl
   refine pure_ (i := 2) (N := some 14) (v := ?_) (a' := ?_) #[true, false, true, false, false, false, false, false, false, false, false, false, false, false, false, false, false] rfl rfl (zah HT_.out (by kernel_rfl)) (fun _ _ _ h => h) (Or.inl ⟨by rfl, ?_⟩) ?_ ?_
   rotate_left
   ·
    intro w'
    go_simp
    with_reducible rfl
   rotate_left
   ·
    simp only [Act.put, zs1, zs2, zs3, i64_w, i32_w]
    rfl
   refine pure_ (i := 4) (N := some 16) (v := ?_) (a' := ?_) #[true, false, true, false, true, false, false, false, false, false, false, false, false, false, false, false, false] rfl rfl (zah HT_.out (by kernel_rfl)) (fun _ _ _ h => h) (Or.inl ⟨by rfl, ?_⟩) ?_ ?_
   rotate_left
   ·
    intro w'
    go_simp
    with_reducible rfl
   rotate_left
   ·
    simp only [Act.put, zs1, zs2, zs3, i64_w, i32_w]
    rfl
   refine pure_ (i := 7) (N := some 19) (v := ?_) (a' := ?_) #[true, false, true, false, true, false, false, true, false, false, false, false, false, false, false, false, false] rfl rfl (zah HT_.out (by kernel_rfl)) (fun _ _ _ h => h) (Or.inl ⟨by rfl, ?_⟩) ?_ ?_
   rotate_left
   ·
    intro w'
    go_simp
    with_reducible rfl
   rotate_left
   ·
    simp only [Act.put, zs1, zs2, zs3, i64_w, i32_w]
    rfl
   refine pure_ (i := 8) (N := some 20) (v := ?_) (a' := ?_) #[true, false, true, false, true, false, false, true, true, false, false, false, false, false, false, false, false] rfl rfl (zah HT_.out (by kernel_rfl)) (fun _ _ _ h => h) (Or.inl ⟨by rfl, ?_⟩) ?_ ?_
   rotate_left
   ·
    intro w'
    go_simp
    with_reducible rfl
   rotate_left
   ·
    simp only [Act.put, zs1, zs2, zs3, i64_w, i32_w]
    rfl
   refine pure_ (i := 9) (N := some 21) (v := ?_) (a' := ?_) #[true, false, true, false, true, false, false, true, true, true, false, false, false, false, false, false, false] rfl rfl (zah HT_.out (by kernel_rfl)) (fun _ _ _ h => h) (Or.inl ⟨by rfl, ?_⟩) ?_ ?_
   rotate_left
   ·
    intro w'
    go_simp
    with_reducible rfl
   rotate_left
   ·
    simp only [Act.put, zs1, zs2, zs3, i64_w, i32_w]
    rfl
   refine pure_ (i := 10) (N := some 22) (v := ?_) (a' := ?_) #[true, false, true, false, true, false, false, true, true, true, true, false, false, false, false, false, false] rfl rfl (zah HT_.out (by kernel_rfl)) (fun _ _ _ h => h) (Or.inl ⟨by rfl, ?_⟩) ?_ ?_
   rotate_left
   ·
    intro w'
    go_simp
    with_reducible rfl
   rotate_left
   ·
    simp only [Act.put, zs1, zs2, zs3, i64_w, i32_w]
    rfl
   refine pure_ (i := 14) (N := some 26) (v := ?_) (a' := ?_) #[true, false, true, false, true, false, false, true, true, true, true, false, false, false, true, false, false] rfl rfl (zah HT_.out (by kernel_rfl)) (fun _ _ _ h => h) (Or.inl ⟨by rfl, ?_⟩) ?_ ?_
   rotate_left
   ·
    intro w'
    go_simp
    with_reducible rfl
   rotate_left
   ·
    simp only [Act.put, zs1, zs2, zs3, i64_w, i32_w]
    rfl
   refine take_ (i := 1) (N := some 13) (v := ?_) (a' := ?_) #[true, true, true, false, true, false, false, true, true, true, true, false, false, false, true, false, false] rfl rfl (zat HT_.out HW_.out (by kernel_rfl)) (fun _ _ _ h => h) (Or.inl ⟨by rfl, ?_⟩) hHeld ?_ ?_
   rotate_left
   ·
    rintro w' ⟨s0, s1, s2⟩
    go_simp
    with_reducible rfl
   rotate_left
   ·
    simp only [Act.put, zs1, zs2, zs3, i64_w, i32_w]
    rfl
   refine take_ (i := 5) (N := some 17) (v := ?_) (a' := ?_) #[true, true, true, false, true, true, false, true, true, true, true, false, false, false, true, false, false] rfl rfl (zat HT_.out HW_.out (by kernel_rfl)) (fun _ _ _ h => h) (Or.inl ⟨by rfl, ?_⟩) hHeld ?_ ?_
   rotate_left
   ·
    rintro w' ⟨s0, s1, s2⟩
    go_simp
    with_reducible rfl
   rotate_left
   ·
    simp only [Act.put, zs1, zs2, zs3, i64_w, i32_w]
    rfl
   refine join_ (σ := Value × Value × Value) 4 #[true, true, true, true, true, true, true, true, true, true, true, true, false, false, true, false, false] (fun s_ => [(15, s_.1), (18, s_.2.1), (23, s_.2.2)]) (fun s_ w' => (w'.cell? ⟨gb224, 0, none⟩ = some (.int .i64 a0_0) ∧ w'.cell? ⟨gb224, 1, none⟩ = some (.int .i64 a0_1) ∧ w'.cell? ⟨gb224, 2, none⟩ = some (.slice A0_2 l0_2.length c0_2)) ∧ (Kd.R k84 84 w' w.heap.size (fun k_ => some k_ ≠ (s_.2.2 : Value).ownBlock) s_.2.1 y229) ∧ (Kd.R k84 84 w' w.heap.size (fun k_ => some k_ ≠ (s_.2.1 : Value).ownBlock) s_.2.2 y232) ∧ (w'.heap[gb224]? = some (.cells #[.int .i64 a0_0, .int .i64 a0_1, .slice A0_2 l0_2.length c0_2] 44 (0, 0))) ∧ (w'.heap[gb225]? = some (.cells #[.int .i64 0, .int .i64 0, .slice none 0 0] 44 (0, 0))) ∧ (Below w.heap.size w w')) ?_ ?_
   rotate_left
   ·
    intro hCont
    refine two_ (i := 3) (j := 11) (Ni := some 15) (Nj := some 23) #[true, true, true, true, true, true, false, true, true, true, true, false, false, false, true, false, false] #[true, true, true, false, true, true, false, true, true, true, true, true, false, false, true, false, false] rfl rfl rfl rfl (two_of HT_.out (by kernel_rfl)) (by decide) (by decide) (fun K hK => ?_) (fun K hK => ?_)
    ·
     skip
     refine Kd.R_lit_step k84 _ 84 ?hg (N := 15) ?hd (xs := ([] : List (S84))) (inner := []) (ok := fun _ => True) (okp := fun _ => True) ?hr ?hp (fun _ hk => hk) trivial (Below.refl _ _) (Nat.le_refl _) (by simp) ?_; (case hd => rfl); (case hg => rfl); (case hr => first | (go_simp; done) | (go_simp; rfl)); (case hp => exact (Reps.none _ _))
     intro v227 w11 ho12 hb hg_ hnew_
     clear hg_ hnew_
     (first | rw [← Ny226.out] at ho12 | (simp only [Int.reduceToNat] at ho12; rw [← Ny226.out] at ho12))
     have n0_ := zA (Kd.R_lower ho12 (zaf (zB HB)))
     have n1_ := zA (zam (g := gb224) (o := .cells #[.int .i64 a0_0, .int .i64 a0_1, .slice A0_2 l0_2.length c0_2] 44 (0, 0)) (zK BK224) hb)
     have n2_ := zA (zam (g := gb225) (o := .cells #[.int .i64 0, .int .i64 0, .slice none 0 0] 44 (0, 0)) (zK BK225) hb)
     have n3_ := zA (zab (zB HB) hb)
     clear BK224 BK225 HB
     have HO228 := n0_
     have BK224 := n1_
     have BK225 := n2_
     have HB := n3_
     clear n0_ n1_ n2_ n3_ hb ho12
     refine hK.out _ _ ⟨(za BK224.out 0).trans rfl, (za BK224.out 1).trans rfl, (za BK224.out 2).trans rfl⟩ (fun hHeld => ?_)
     clear hK K
     refine norm_ (a' := ?_) ?_ ?_
     rotate_left
     ·
      show Act.put _ (some 15) _ = _
      simp only [Act.put, zs1, zs2, zs3, i64_w, i32_w]
      rfl
     refine two_ (i := 6) (j := 11) (Ni := some 18) (Nj := some 23) #[true, true, true, true, true, true, true, true, true, true, true, false, false, false, true, false, false] #[true, true, true, true, true, true, false, true, true, true, true, true, false, false, true, false, false] rfl rfl rfl rfl (two_of HT_.out (by kernel_rfl)) (by decide) (by decide) (fun K hK => ?_) (fun K hK => ?_)
     ·
      skip
      refine Kd.zbd k84 (w0 := w) w.heap.size (by rfl) (.tmp 15) (.tmp 17) 42 84 (.agg #[(.int .i64 0), (.int .i64 0), (.int .i64 0), (.int .i64 0), (.int .i64 0)]) 40 rfl Try.underlying42 info84 rfl (by decide) (by omega) v227 y226 l0_2 _ _ _ (fun _ => True) (fun _ => False) rfl rfl ?aO ?aR (fun _ _ h => h) (fun _ h => h.elim) ?aF ?aB ?aS ?aL ?_
      (case aR => exact zJ (Kd.za0 HR0_2.out HB.out))
      (case aB => exact (zB HB))
      (case aF => exact (fun _ _ => trivial))
      (case aO => exact (zR HO228))
      (case aS => exact (zaf (zB HB)))
      (case aL => have := LMc4.out; omega)
      intro v230 w13 ho hb hg hat
      rw [← Ny229.out] at ho
      have n0_ := zA (zb (g := gb224) (o := .cells #[.int .i64 a0_0, .int .i64 a0_1, .slice A0_2 l0_2.length c0_2] 44 (0, 0)) (zK BK224) hg (Kd.R_ne HO228.out BK224.out (by decide)))
      have n1_ := zA (zb (g := gb225) (o := .cells #[.int .i64 0, .int .i64 0, .slice none 0 0] 44 (0, 0)) (zK BK225) hg (Kd.R_ne HO228.out BK225.out (by decide)))
      have n2_ := zA (hb)
      have n3_ := zA (ho)
      clear BK224 BK225 HB HO228
      have BK224 := n0_
      have BK225 := n1_
      have HB := n2_
      have HO231 := n3_
      clear n0_ n1_ n2_ n3_ ho hb hg hat
      refine hK.out _ _ ⟨(za BK224.out 0).trans rfl, (za BK224.out 1).trans rfl, (za BK224.out 2).trans rfl⟩ (fun hHeld => ?_)
      clear hK K
      refine norm_ (a' := ?_) ?_ ?_
      rotate_left
      ·
       show Act.put _ (some 18) _ = _
       simp only [Act.put, zs1, zs2, zs3, i64_w, i32_w]
       rfl
      refine one_ (i := 11) (N := some 23) #[true, true, true, true, true, true, true, true, true, true, true, true, false, false, true, false, false] rfl rfl (zbb HT_.out (by kernel_rfl)) (by decide) (fun K hK => ?_)
      refine Kd.R_lit_step k84 _ 84 ?hg (N := 23) ?hd (xs := ([(⟨wrap64 (a0_1 + 1), a1, a2, 0, 0⟩ : S84)] : List (S84))) (inner := [.int .i64 (wrap64 (a0_1 + 1)), .int .i64 a1, .int .i64 a2, .int .i64 0, .int .i64 0]) (ok := fun _ => True) (okp := fun _ => True) ?hr ?hp (fun _ hk => hk) trivial (Below.refl _ _) (Nat.le_refl _) (by simp) ?_; (case hd => rfl); (case hg => rfl); (case hr => first | (go_simp; done) | (go_simp; rfl)); (case hp => exact (Reps.c5 (show Kd.M k84 _ _ _ (⟨wrap64 (a0_1 + 1), a1, a2, 0, 0⟩ : S84) [.int .i64 (wrap64 (a0_1 + 1)), .int .i64 a1, .int .i64 a2, .int .i64 0, .int .i64 0] from (k84_mkM _ _ _ (⟨wrap64 (a0_1 + 1), a1, a2, 0, 0⟩ : S84) )) (Reps.none _ _)))
      intro v233 w14 ho15 hb hg_ hnew_
      clear hg_ hnew_
      (first | rw [← Ny232.out] at ho15 | (simp only [Int.reduceToNat] at ho15; rw [← Ny232.out] at ho15))
      have n0_ := zA (Kd.R_elder' (zR HO231) (Kd.R_base ho15) hb)
      have n1_ := zA (Kd.R_lower (Kd.R_new' ho15 (Kd.R_lt (zR HO231))) (zaf (zB HB)))
      have n2_ := zA (zam (g := gb224) (o := .cells #[.int .i64 a0_0, .int .i64 a0_1, .slice A0_2 l0_2.length c0_2] 44 (0, 0)) (zK BK224) hb)
      have n3_ := zA (zam (g := gb225) (o := .cells #[.int .i64 0, .int .i64 0, .slice none 0 0] 44 (0, 0)) (zK BK225) hb)
      have n4_ := zA (zab (zB HB) hb)
      clear HO231 BK224 BK225 HB
      have HO231 := n0_
      have HO234 := n1_
      have BK224 := n2_
      have BK225 := n3_
      have HB := n4_
      clear n0_ n1_ n2_ n3_ n4_ hb ho15
      refine hK.out _ _ ⟨(za BK224.out 0).trans rfl, (za BK224.out 1).trans rfl, (za BK224.out 2).trans rfl⟩ (fun hHeld => ?_)
      clear hK K
      refine norm_ (a' := ?_) ?_ ?_
      rotate_left
      ·
       show Act.put _ (some 23) _ = _
       simp only [Act.put, zs1, zs2, zs3, i64_w, i32_w]
       rfl
      exact norm_ (by simp only [putAll, Act.put, zs1, zs2, zs3]) (hCont (v227, v230, v233) _ ⟨hHeld, (by (with_reducible repeat (first | apply Kd.zcb | apply Kd.zb9 | apply Kd.R_drew)); exact Kd.zbn HO231.out (fun _ hk => hk.2)), (by (with_reducible repeat (first | apply Kd.zcb | apply Kd.zb9 | apply Kd.R_drew)); exact Kd.zbn HO234.out (fun _ hk => hk.2)), (zK BK224), (zK BK225), (zB HB)⟩)
     ·
      skip
      refine Kd.R_lit_step k84 _ 84 ?hg (N := 23) ?hd (xs := ([(⟨wrap64 (a0_1 + 1), a1, a2, 0, 0⟩ : S84)] : List (S84))) (inner := [.int .i64 (wrap64 (a0_1 + 1)), .int .i64 a1, .int .i64 a2, .int .i64 0, .int .i64 0]) (ok := fun _ => True) (okp := fun _ => True) ?hr ?hp (fun _ hk => hk) trivial (Below.refl _ _) (Nat.le_refl _) (by simp) ?_; (case hd => rfl); (case hg => rfl); (case hr => first | (go_simp; done) | (go_simp; rfl)); (case hp => exact (Reps.c5 (show Kd.M k84 _ _ _ (⟨wrap64 (a0_1 + 1), a1, a2, 0, 0⟩ : S84) [.int .i64 (wrap64 (a0_1 + 1)), .int .i64 a1, .int .i64 a2, .int .i64 0, .int .i64 0] from (k84_mkM _ _ _ (⟨wrap64 (a0_1 + 1), a1, a2, 0, 0⟩ : S84) )) (Reps.none _ _)))
      intro v233 w13 ho14 hb hg_ hnew_
      clear hg_ hnew_
      (first | rw [← Ny232.out] at ho14 | (simp only [Int.reduceToNat] at ho14; rw [← Ny232.out] at ho14))
      have n0_ := zA (Kd.R_elder' (zR HO228) (Kd.R_base ho14) hb)
      have n1_ := zA (Kd.R_lower (Kd.R_new' ho14 (Kd.R_lt (zR HO228))) (zaf (zB HB)))
      have n2_ := zA (zam (g := gb224) (o := .cells #[.int .i64 a0_0, .int .i64 a0_1, .slice A0_2 l0_2.length c0_2] 44 (0, 0)) (zK BK224) hb)
      have n3_ := zA (zam (g := gb225) (o := .cells #[.int .i64 0, .int .i64 0, .slice none 0 0] 44 (0, 0)) (zK BK225) hb)
      have n4_ := zA (zab (zB HB) hb)
      clear HO228 BK224 BK225 HB
      have HO228 := n0_
      have HO234 := n1_
      have BK224 := n2_
      have BK225 := n3_
      have HB := n4_
      clear n0_ n1_ n2_ n3_ n4_ hb ho14
      refine hK.out _ _ ⟨(za BK224.out 0).trans rfl, (za BK224.out 1).trans rfl, (za BK224.out 2).trans rfl⟩ (fun hHeld => ?_)
      clear hK K
      refine norm_ (a' := ?_) ?_ ?_
      rotate_left
      ·
       show Act.put _ (some 23) _ = _
       simp only [Act.put, zs1, zs2, zs3, i64_w, i32_w]
       rfl
      refine one_ (i := 6) (N := some 18) #[true, true, true, true, true, true, true, true, true, true, true, true, false, false, true, false, false] rfl rfl (zbb HT_.out (by kernel_rfl)) (by decide) (fun K hK => ?_)
      refine Kd.zbd k84 (w0 := w) w.heap.size (by rfl) (.tmp 15) (.tmp 17) 42 84 (.agg #[(.int .i64 0), (.int .i64 0), (.int .i64 0), (.int .i64 0), (.int .i64 0)]) 40 rfl Try.underlying42 info84 rfl (by decide) (by omega) v227 y226 l0_2 _ _ _ (fun k_ => some k_ ≠ (v233 : Value).ownBlock) (fun _ => False) rfl rfl ?aO ?aR (fun _ _ h => h) (fun _ h => h.elim) ?aF ?aB ?aS ?aL ?_
      (case aR => exact zJ (Kd.za0 HR0_2.out HB.out))
      (case aB => exact (zB HB))
      (case aF => exact (fun k_ hk => Kd.fresh' (Kd.R_lt (zR HO234)) k_ hk))
      (case aO => exact (by (with_reducible repeat (first | apply Kd.zcb | apply Kd.zb9 | apply Kd.R_drew)); exact Kd.zbn HO228.out (fun _ hk => hk.2)))
      (case aS => exact (zaf (zB HB)))
      (case aL => have := LMc4.out; omega)
      intro v230 w15 ho hb hg hat
      rw [← Ny229.out] at ho
      have n0_ := zA (zb (g := gb224) (o := .cells #[.int .i64 a0_0, .int .i64 a0_1, .slice A0_2 l0_2.length c0_2] 44 (0, 0)) (zK BK224) hg (Kd.R_ne HO228.out BK224.out (by decide)))
      have n1_ := zA (zb (g := gb225) (o := .cells #[.int .i64 0, .int .i64 0, .slice none 0 0] 44 (0, 0)) (zK BK225) hg (Kd.R_ne HO228.out BK225.out (by decide)))
      have n2_ := zA (Kd.R_after (ok := (fun _ => True)) (zR HO234) hg hat)
      have n3_ := zA (hb)
      have n4_ := zA (ho)
      clear BK224 BK225 HO234 HB HO228
      have BK224 := n0_
      have BK225 := n1_
      have HO234 := n2_
      have HB := n3_
      have HO231 := n4_
      clear n0_ n1_ n2_ n3_ n4_ ho hb hg hat
      refine hK.out _ _ ⟨(za BK224.out 0).trans rfl, (za BK224.out 1).trans rfl, (za BK224.out 2).trans rfl⟩ (fun hHeld => ?_)
      clear hK K
      refine norm_ (a' := ?_) ?_ ?_
      rotate_left
      ·
       show Act.put _ (some 18) _ = _
       simp only [Act.put, zs1, zs2, zs3, i64_w, i32_w]
       rfl
      exact norm_ (by simp only [putAll, Act.put, zs1, zs2, zs3]) (hCont (v227, v230, v233) _ ⟨hHeld, (zR HO231), (by (with_reducible repeat (first | apply Kd.zcb | apply Kd.zb9 | apply Kd.R_drew)); exact Kd.zbn HO234.out (fun _ hk => hk.2)), (zK BK224), (zK BK225), (zB HB)⟩)
    ·
     skip
     refine Kd.R_lit_step k84 _ 84 ?hg (N := 23) ?hd (xs := ([(⟨wrap64 (a0_1 + 1), a1, a2, 0, 0⟩ : S84)] : List (S84))) (inner := [.int .i64 (wrap64 (a0_1 + 1)), .int .i64 a1, .int .i64 a2, .int .i64 0, .int .i64 0]) (ok := fun _ => True) (okp := fun _ => True) ?hr ?hp (fun _ hk => hk) trivial (Below.refl _ _) (Nat.le_refl _) (by simp) ?_; (case hd => rfl); (case hg => rfl); (case hr => first | (go_simp; done) | (go_simp; rfl)); (case hp => exact (Reps.c5 (show Kd.M k84 _ _ _ (⟨wrap64 (a0_1 + 1), a1, a2, 0, 0⟩ : S84) [.int .i64 (wrap64 (a0_1 + 1)), .int .i64 a1, .int .i64 a2, .int .i64 0, .int .i64 0] from (k84_mkM _ _ _ (⟨wrap64 (a0_1 + 1), a1, a2, 0, 0⟩ : S84) )) (Reps.none _ _)))
     intro v233 w11 ho12 hb hg_ hnew_
     clear hg_ hnew_
     (first | rw [← Ny232.out] at ho12 | (simp only [Int.reduceToNat] at ho12; rw [← Ny232.out] at ho12))
     have n0_ := zA (Kd.R_lower ho12 (zaf (zB HB)))
     have n1_ := zA (zam (g := gb224) (o := .cells #[.int .i64 a0_0, .int .i64 a0_1, .slice A0_2 l0_2.length c0_2] 44 (0, 0)) (zK BK224) hb)
     have n2_ := zA (zam (g := gb225) (o := .cells #[.int .i64 0, .int .i64 0, .slice none 0 0] 44 (0, 0)) (zK BK225) hb)
     have n3_ := zA (zab (zB HB) hb)
     clear BK224 BK225 HB
     have HO234 := n0_
     have BK224 := n1_
     have BK225 := n2_
     have HB := n3_
     clear n0_ n1_ n2_ n3_ hb ho12
     refine hK.out _ _ ⟨(za BK224.out 0).trans rfl, (za BK224.out 1).trans rfl, (za BK224.out 2).trans rfl⟩ (fun hHeld => ?_)
     clear hK K
     refine norm_ (a' := ?_) ?_ ?_
     rotate_left
     ·
      show Act.put _ (some 23) _ = _
      simp only [Act.put, zs1, zs2, zs3, i64_w, i32_w]
      rfl
     refine one_ (i := 3) (N := some 15) #[true, true, true, true, true, true, false, true, true, true, true, true, false, false, true, false, false] rfl rfl (zbb HT_.out (by kernel_rfl)) (by decide) (fun K hK => ?_)
     refine Kd.R_lit_step k84 _ 84 ?hg (N := 15) ?hd (xs := ([] : List (S84))) (inner := []) (ok := fun _ => True) (okp := fun _ => True) ?hr ?hp (fun _ hk => hk) trivial (Below.refl _ _) (Nat.le_refl _) (by simp) ?_; (case hd => rfl); (case hg => rfl); (case hr => first | (go_simp; done) | (go_simp; rfl)); (case hp => exact (Reps.none _ _))
     intro v227 w13 ho14 hb hg_ hnew_
     clear hg_ hnew_
     (first | rw [← Ny226.out] at ho14 | (simp only [Int.reduceToNat] at ho14; rw [← Ny226.out] at ho14))
     have n0_ := zA (Kd.R_elder' (zR HO234) (Kd.R_base ho14) hb)
     have n1_ := zA (Kd.R_lower (Kd.R_new' ho14 (Kd.R_lt (zR HO234))) (zaf (zB HB)))
     have n2_ := zA (zam (g := gb224) (o := .cells #[.int .i64 a0_0, .int .i64 a0_1, .slice A0_2 l0_2.length c0_2] 44 (0, 0)) (zK BK224) hb)
     have n3_ := zA (zam (g := gb225) (o := .cells #[.int .i64 0, .int .i64 0, .slice none 0 0] 44 (0, 0)) (zK BK225) hb)
     have n4_ := zA (zab (zB HB) hb)
     clear HO234 BK224 BK225 HB
     have HO234 := n0_
     have HO228 := n1_
     have BK224 := n2_
     have BK225 := n3_
     have HB := n4_
     clear n0_ n1_ n2_ n3_ n4_ hb ho14
     refine hK.out _ _ ⟨(za BK224.out 0).trans rfl, (za BK224.out 1).trans rfl, (za BK224.out 2).trans rfl⟩ (fun hHeld => ?_)
     clear hK K
     refine norm_ (a' := ?_) ?_ ?_
     rotate_left
     ·
      show Act.put _ (some 15) _ = _
      simp only [Act.put, zs1, zs2, zs3, i64_w, i32_w]
      rfl
     refine one_ (i := 6) (N := some 18) #[true, true, true, true, true, true, true, true, true, true, true, true, false, false, true, false, false] rfl rfl (zbb HT_.out (by kernel_rfl)) (by decide) (fun K hK => ?_)
     refine Kd.zbd k84 (w0 := w) w.heap.size (by rfl) (.tmp 15) (.tmp 17) 42 84 (.agg #[(.int .i64 0), (.int .i64 0), (.int .i64 0), (.int .i64 0), (.int .i64 0)]) 40 rfl Try.underlying42 info84 rfl (by decide) (by omega) v227 y226 l0_2 _ _ _ (fun k_ => some k_ ≠ (v233 : Value).ownBlock) (fun _ => False) rfl rfl ?aO ?aR (fun _ _ h => h) (fun _ h => h.elim) ?aF ?aB ?aS ?aL ?_
     (case aR => exact zJ (Kd.za0 HR0_2.out HB.out))
     (case aB => exact (zB HB))
     (case aF => exact (fun k_ hk => Kd.fresh' (Kd.R_lt (zR HO234)) k_ hk))
     (case aO => exact (by (with_reducible repeat (first | apply Kd.zcb | apply Kd.zb9 | apply Kd.R_drew)); exact Kd.zbn HO228.out (fun _ hk => hk.2)))
     (case aS => exact (zaf (zB HB)))
     (case aL => have := LMc4.out; omega)
     intro v230 w15 ho hb hg hat
     rw [← Ny229.out] at ho
     have n0_ := zA (zb (g := gb224) (o := .cells #[.int .i64 a0_0, .int .i64 a0_1, .slice A0_2 l0_2.length c0_2] 44 (0, 0)) (zK BK224) hg (Kd.R_ne HO228.out BK224.out (by decide)))
     have n1_ := zA (zb (g := gb225) (o := .cells #[.int .i64 0, .int .i64 0, .slice none 0 0] 44 (0, 0)) (zK BK225) hg (Kd.R_ne HO228.out BK225.out (by decide)))
     have n2_ := zA (Kd.R_after (ok := (fun _ => True)) (zR HO234) hg hat)
     have n3_ := zA (hb)
     have n4_ := zA (ho)
     clear BK224 BK225 HO234 HB HO228
     have BK224 := n0_
     have BK225 := n1_
     have HO234 := n2_
     have HB := n3_
     have HO231 := n4_
     clear n0_ n1_ n2_ n3_ n4_ ho hb hg hat
     refine hK.out _ _ ⟨(za BK224.out 0).trans rfl, (za BK224.out 1).trans rfl, (za BK224.out 2).trans rfl⟩ (fun hHeld => ?_)
     clear hK K
     refine norm_ (a' := ?_) ?_ ?_
     rotate_left
     ·
      show Act.put _ (some 18) _ = _
      simp only [Act.put, zs1, zs2, zs3, i64_w, i32_w]
      rfl
     exact norm_ (by simp only [putAll, Act.put, zs1, zs2, zs3]) (hCont (v227, v230, v233) _ ⟨hHeld, (zR HO231), (by (with_reducible repeat (first | apply Kd.zcb | apply Kd.zb9 | apply Kd.R_drew)); exact Kd.zbn HO234.out (fun _ hk => hk.2)), (zK BK224), (zK BK225), (zB HB)⟩)
   rintro ⟨v227, v230, v233⟩ w16 ⟨hS_, h0_, h1_, h2_, h3_, h4_⟩
   have n0_ : Aside0 (Kd.R k84 84 w16 w.heap.size (fun k_ => some k_ ≠ (v233 : Value).ownBlock) v230 y229) := ⟨h0_⟩
   have n1_ : Aside0 (Kd.R k84 84 w16 w.heap.size (fun k_ => some k_ ≠ (v230 : Value).ownBlock) v233 y232) := ⟨h1_⟩
   have n2_ : Aside0 (w16.heap[gb224]? = some (.cells #[.int .i64 a0_0, .int .i64 a0_1, .slice A0_2 l0_2.length c0_2] 44 (0, 0))) := ⟨h2_⟩
   have n3_ : Aside0 (w16.heap[gb225]? = some (.cells #[.int .i64 0, .int .i64 0, .slice none 0 0] 44 (0, 0))) := ⟨h3_⟩
   have n4_ : Aside0 (Below w.heap.size w w16) := ⟨h4_⟩
   clear BK224 BK225 HB h0_ h1_ h2_ h3_ h4_
   have HO231 := n0_
   have HO234 := n1_
   have BK224 := n2_
   have BK225 := n3_
   have HB := n4_
   clear n0_ n1_ n2_ n3_ n4_
   have hHeld : w16.cell? ⟨gb224, 0, none⟩ = some (.int .i64 a0_0) ∧ w16.cell? ⟨gb224, 1, none⟩ = some (.int .i64 a0_1) ∧ w16.cell? ⟨gb224, 2, none⟩ = some (.slice A0_2 l0_2.length c0_2) := hS_
   obtain ⟨Ao18, co18, eo18⟩ := Kd.zbv HO234.out
   (first | subst eo18 | (injection eo18 with f1_ f2_ f3_; have f4_ := f1_.symm; have f5_ := f3_.symm; clear f1_ f2_ f3_; subst f4_; subst f5_))
   refine norm_ (a' := ?_) ?_ ?_
   rotate_left
   ·
    simp only [putAll, Act.put, zs1, zs2, zs3]
    rfl
   refine one_ (i := 12) (N := some 24) #[true, true, true, true, true, true, true, true, true, true, true, true, true, false, true, false, false] rfl rfl (zbb HT_.out (by kernel_rfl)) (by decide) (fun K hK => ?_)
   refine Kd.zbd k84 (w0 := w) w.heap.size (by rfl) (.tmp 18) (.tmp 23) 42 84 (.agg #[(.int .i64 0), (.int .i64 0), (.int .i64 0), (.int .i64 0), (.int .i64 0)]) 40 rfl Try.underlying42 info84 rfl (by decide) (by omega) v230 y229 y232 _ _ _ (fun k_ => some k_ ≠ (.slice Ao18 y232.length co18 : Value).ownBlock) (fun _ => False) rfl rfl ?aO ?aR (fun _ _ h => h) (fun _ h => h.elim) ?aF ?aB ?aS ?aL ?_
   (case aR => exact zJ (Kd.R_reads' HO234.out).2.2)
   (case aB => exact (zB HB))
   (case aF => exact (fun k_ hk => Kd.fresh' (Kd.R_lt (zR HO234)) k_ hk))
   (case aO => exact (zR HO231))
   (case aS => exact (zaf (zB HB)))
   (case aL => have := LMc5.out; omega)
   intro v236 w17 ho hb hg hat
   rw [← Ny235.out] at ho
   have n0_ := zA (zb (g := gb224) (o := .cells #[.int .i64 a0_0, .int .i64 a0_1, .slice A0_2 l0_2.length c0_2] 44 (0, 0)) (zK BK224) hg (Kd.R_ne HO231.out BK224.out (by decide)))
   have n1_ := zA (zb (g := gb225) (o := .cells #[.int .i64 0, .int .i64 0, .slice none 0 0] 44 (0, 0)) (zK BK225) hg (Kd.R_ne HO231.out BK225.out (by decide)))
   have n2_ := zA (Kd.R_after (ok := (fun _ => True)) (by (with_reducible repeat (first | apply Kd.zcb | apply Kd.zb9 | apply Kd.R_drew)); exact Kd.zbn HO234.out (fun _ hk => ⟨trivial, hk⟩)) hg hat)
   have n3_ := zA (hb)
   have n4_ := zA (ho)
   clear BK224 BK225 HO234 HB HO231
   have BK224 := n0_
   have BK225 := n1_
   have HO234 := n2_
   have HB := n3_
   have HO237 := n4_
   clear n0_ n1_ n2_ n3_ n4_ ho hb hg hat
   obtain ⟨Ao19, co19, eo19⟩ := Kd.zbv HO237.out
   (first | subst eo19 | (injection eo19 with f1_ f2_ f3_; have f4_ := f1_.symm; have f5_ := f3_.symm; clear f1_ f2_ f3_; subst f4_; subst f5_))
   refine hK.out _ _ ⟨(za BK224.out 0).trans rfl, (za BK224.out 1).trans rfl, (za BK224.out 2).trans rfl⟩ (fun hHeld => ?_)
   clear hK K
   refine norm_ (a' := ?_) ?_ ?_
   rotate_left
   ·
    show Act.put _ (some 24) _ = _
    simp only [Act.put, zs1, zs2, zs3, i64_w, i32_w]
    rfl
   refine pure_ (i := 13) (N := some 25) (v := ?_) (a' := ?_) #[true, true, true, true, true, true, true, true, true, true, true, true, true, true, true, false, false] rfl rfl (zah HT_.out (by kernel_rfl)) (fun _ _ _ h => h) (Or.inl ⟨by rfl, ?_⟩) ?_ ?_
   rotate_left
   ·
    intro w'
    go_simp
    with_reducible rfl
   rotate_left
   ·
    simp only [Act.put, zs1, zs2, zs3, i64_w, i32_w]
    rfl
   refine one_ (i := 15) (N := none) #[true, true, true, true, true, true, true, true, true, true, true, true, true, true, true, true, false] rfl rfl (zbb HT_.out (by kernel_rfl)) (by decide) (fun K hK => ?_)
   have hs20 : w17.cell? ⟨gb225, 0, none⟩ = some (.int .i64 0) := (za BK225.out 0).trans rfl
   have hfs20 := zaa BK225.out 0
   have hns20_0 := NB224_225.out
   have hms20_0 := NB225_224.out
   have hs21 : w17.cell? ⟨gb225, 1, none⟩ = some (.int .i64 0) := (za BK225.out 1).trans rfl
   have hfs21 := zaa BK225.out 1
   have hns21_0 := NB224_225.out
   have hms21_0 := NB225_224.out
   have hs22 : w17.cell? ⟨gb225, 2, none⟩ = some (.slice none 0 0) := (za BK225.out 2).trans rfl
   have hfs22 := zaa BK225.out 2
   have hns22_0 := NB224_225.out
   have hms22_0 := NB225_224.out
   refine skip_ (w1 := ?_) (by rfl) rfl ?_ ?_
   rotate_left
   ·
    go_simp
    rfl
   refine hK.out _ _ ⟨((cell_far (p := ⟨gb225, _, none⟩) NB224_225.out _).trans (((cell_far (p := ⟨gb225, _, none⟩) NB224_225.out _).trans (((cell_far (p := ⟨gb225, _, none⟩) NB224_225.out _).trans (hHeld.1)))))), ((cell_far (p := ⟨gb225, _, none⟩) NB224_225.out _).trans (((cell_far (p := ⟨gb225, _, none⟩) NB224_225.out _).trans (((cell_far (p := ⟨gb225, _, none⟩) NB224_225.out _).trans (hHeld.2.1)))))), ((cell_far (p := ⟨gb225, _, none⟩) NB224_225.out _).trans (((cell_far (p := ⟨gb225, _, none⟩) NB224_225.out _).trans (((cell_far (p := ⟨gb225, _, none⟩) NB224_225.out _).trans (hHeld.2.2))))))⟩ (fun hHeld => ?_)
   clear hK K
   refine pure_ (i := 16) (N := some 7) (v := ?_) (a' := ?_) #[true, true, true, true, true, true, true, true, true, true, true, true, true, true, true, true, true] rfl rfl (zah HT_.out (by kernel_rfl)) (fun _ _ _ h => h) (Or.inl ⟨by rfl, ?_⟩) ?_ ?_
   rotate_left
   ·
    intro w'
    go_simp
    with_reducible rfl
   rotate_left
   ·
    simp only [Act.put, zs1, zs2, zs3, i64_w, i32_w]
    rfl
   refine done_ (zby HT_.out (by kernel_rfl)) ?_
   try go_wp2
   refine bodyPost_ret (zav rfl _ _ gb225 44 #[.int .i64 a0_0, .int .i64 (wrap64 (a0_1 + 1)), .slice Ao19 y235.length co19] (0, 0) _ rfl (by (with_reducible repeat (first | refine zao ?_ _ | refine zan ?_ | refine zac ?_ _)); refine zau (cs := #[.int .i64 a0_0, .int .i64 (wrap64 (a0_1 + 1)), .slice none 0 0]) ?_ 2 _ rfl; (with_reducible repeat (first | refine zao ?_ _ | refine zan ?_ | refine zac ?_ _)); refine zau (cs := #[.int .i64 a0_0, .int .i64 0, .slice none 0 0]) ?_ 1 _ rfl; (with_reducible repeat (first | refine zao ?_ _ | refine zan ?_ | refine zac ?_ _)); refine zau (cs := #[.int .i64 0, .int .i64 0, .slice none 0 0]) ?_ 0 _ rfl; (with_reducible repeat (first | refine zao ?_ _ | refine zan ?_ | refine zac ?_ _)); exact BK225.out) Try.underlying44 rfl (by kernel_rfl)) rfl ?_
   exact ⟨_, zW, by (with_reducible repeat (first | apply Kd.zcb | apply Kd.zb9 | apply Kd.R_drew)); exact Kd.zbn (Kd.R_far (p := ⟨gb225, 2, none⟩) (Kd.R_far (p := ⟨gb225, 1, none⟩) (Kd.R_far (p := ⟨gb225, 0, none⟩) (Kd.R_types HO237.out BK225.out (by decide)) (fun _ hk => hk.2) (.int .i64 a0_0)) (fun _ hk => hk.2) (.int .i64 (wrap64 (a0_1 + 1)))) (fun _ hk => hk.2) (.slice Ao19 y235.length co19)) (fun _ hk => trivial), zB HB⟩
  ·
   rw [if_neg c5] at H
   exact absurd H (by simp)
 ·
  rw [if_neg c4] at H
  exact absurd H (by simp)
def zbh.f (a0_0 : Int) (a0_1 : Int) (l0_2 : List (S84)) : Option (Int × Int × (List (S84)) × Int × Int) := if (l0_2.length : Int) = a0_0 then (some (a0_0, a0_1, l0_2, 0, 6)) else ((zax.f a0_0 a0_1 l0_2 (-1) 1).bind fun bt240 => (some (bt240.1, bt240.2.1, bt240.2.2.1, bt240.2.2.2, 0)))
theorem zbh.calls (a0_0 : Int) (a0_1 : Int) (P0_2_ : Nat → Prop) (A0_2 : Option Addr) (c0_2 : Nat) (l0_2 : List (S84)) (r1 : Int) (r2 : Int) (r3 : List (S84)) (r4 : Int) (r5 : Int) (w : World) (hs0_2 : Kd.V k84 84 w w.heap.size (fun k_ => P0_2_ k_) (.slice A0_2 l0_2.length c0_2) l0_2) (h : zbh.f a0_0 a0_1 l0_2 = some (r1, r2, r3, r4, r5)) :
  Calls Try.prog 32 #[.agg #[.int .i64 a0_0, .int .i64 a0_1, .slice A0_2 l0_2.length c0_2]] w fun e w' => ∃ v2_ : Value, e = .returned (.tuple #[.agg #[.int .i64 r1, .int .i64 r2, v2_], .int .i64 r4, .int .i64 r5]) ∧ Kd.V k84 84 w' w.heap.size (fun k_ => (P0_2_ k_ ∨ w.heap.size ≤ k_)) v2_ r3 ∧ Below w.heap.size w w' := by
 have hu44 := Try.underlying44
 have HO0_2 := zA (show Kd.V k84 84 w w.heap.size (fun k_ => (P0_2_ k_ ∨ w.heap.size ≤ k_)) (.slice A0_2 l0_2.length c0_2) l0_2 from Kd.zbk hs0_2 (fun k_ hk => .inl hk))
 have HB := zA (Below.refl w.heap.size w)
 have H : (if (l0_2.length : Int) = a0_0 then (some (a0_0, a0_1, l0_2, 0, 6)) else ((zax.f a0_0 a0_1 l0_2 (-1) 1).bind fun bt240 => (some (bt240.1, bt240.2.1, bt240.2.2.1, bt240.2.2.2, 0)))) = some (r1, r2, r3, r4, r5) := h
 clear h
 by_cases c2 : (l0_2.length : Int) = a0_0
 ·
  rw [if_pos c2] at H
  have c2b0 : ((l0_2.length : Int) == a0_0) = true := beq_iff_eq.mpr c2
  have c2b1 : ((l0_2.length : Int) != a0_0) = false := bne_eq_false_iff_eq.mpr c2
  clear c2
  simp only [Option.some.injEq, Prod.mk.injEq] at H
  obtain ⟨rfl, rfl, rfl, rfl, rfl⟩ := H
  go_enter Try.func32, Try.ntmps32
  go_wp2_with (first | ((with_reducible refine za7 (N := 1) rfl ?_); refine za3 ?hg (N := 1) ?hd (cs := #[.int .i64 a0_0, .int .i64 a0_1, .slice A0_2 l0_2.length c0_2]) (t := 44) ?hr ?_; (case hd => rfl); (case hg => rfl); (case hr => first | (go_simp; done) | (go_simp; rfl)); intro gb238 hg w3 hbox hb; have n0_ := zA (Kd.za1 (Kd.zbl (zV HO0_2) gb238 (Nat.le_of_eq hg.symm)) hb); have n1_ := zA (zab (zB HB) hb); have n2_ := zA (hbox); have n3_ := zA ((by rw [hg]; exact (zaf (zB HB)) : w.heap.size ≤ gb238)); have n4_ := zA ((by rw [hg]; exact (zaf (zB HB)) : w.heap.size ≤ gb238)); clear HO0_2 HB; have HO0_2 := n0_; have HB := n1_; have BK238 := n2_; have GW238 := n3_; have GE238 := n4_; clear n0_ n1_ n2_ n3_ n4_ hb hbox hg) | ((with_reducible refine za7 (N := 2) rfl ?_); refine za3 ?hg (N := 2) ?hd (cs := #[.int .i64 0, .int .i64 0, .slice none 0 0]) (t := 44) ?hr ?_; (case hd => rfl); (case hg => rfl); (case hr => first | (go_simp; done) | (go_simp; rfl)); intro gb239 hg w4 hbox hb; have n0_ := zA (Kd.za1 (Kd.zbl (zV HO0_2) gb239 (Nat.le_of_eq hg.symm)) hb); have n1_ := zA (zam (g := gb238) (o := .cells #[.int .i64 a0_0, .int .i64 a0_1, .slice A0_2 l0_2.length c0_2] 44 (0, 0)) (zK BK238) hb); have n2_ := zA (zab (zB HB) hb); have n3_ := zA (hbox); have n4_ := zA ((by rw [hg]; exact (zaf (zB HB)) : w.heap.size ≤ gb239)); have n5_ := zA ((by rw [hg]; exact (zaf (zB HB)) : w.heap.size ≤ gb239)); have n6_ := zA ((by rw [hg]; exact Nat.ne_of_lt (zar (g := gb238) (o := .cells #[.int .i64 a0_0, .int .i64 a0_1, .slice A0_2 l0_2.length c0_2] 44 (0, 0)) (zK BK238)) : gb238 ≠ gb239)); have n7_ := zA ((by rw [hg]; exact Nat.ne_of_gt (zar (g := gb238) (o := .cells #[.int .i64 a0_0, .int .i64 a0_1, .slice A0_2 l0_2.length c0_2] 44 (0, 0)) (zK BK238)) : gb239 ≠ gb238)); clear HO0_2 BK238 HB; have HO0_2 := n0_; have BK238 := n1_; have HB := n2_; have BK239 := n3_; have GW239 := n4_; have GE239 := n5_; have NB238_239 := n6_; have NB239_238 := n7_; clear n0_ n1_ n2_ n3_ n4_ n5_ n6_ n7_ hb hbox hg; have hnb5 := NB238_239.out; have hnc5 := NB239_238.out; have hcz6_0 : w4.cell? ⟨gb238, 0, none⟩ = some (.int .i64 a0_0) := (za BK238.out 0).trans rfl; have hcz6_1 : w4.cell? ⟨gb238, 1, none⟩ = some (.int .i64 a0_1) := (za BK238.out 1).trans rfl; have hcz6_2 : w4.cell? ⟨gb238, 2, none⟩ = some (.slice A0_2 l0_2.length c0_2) := (za BK238.out 2).trans rfl; have hfz6_0 := zaa BK238.out 0; have hfz6_1 := zaa BK238.out 1; have hfz6_2 := zaa BK238.out 2; have hcz7_0 : w4.cell? ⟨gb239, 0, none⟩ = some (.int .i64 0) := (za BK239.out 0).trans rfl; have hcz7_1 : w4.cell? ⟨gb239, 1, none⟩ = some (.int .i64 0) := (za BK239.out 1).trans rfl; have hcz7_2 : w4.cell? ⟨gb239, 2, none⟩ = some (.slice none 0 0) := (za BK239.out 2).trans rfl; have hfz7_0 := zaa BK239.out 0; have hfz7_1 := zaa BK239.out 1; have hfz7_2 := zaa BK239.out 2))
  refine bodyPost_ret (zbu rfl _ _ gb239 44 #[.int .i64 a0_0, .int .i64 a0_1, .slice A0_2 l0_2.length c0_2] (0, 0) _ rfl (by (with_reducible repeat (first | refine zao ?_ _ | refine zan ?_ | refine zac ?_ _)); refine zau (cs := #[.int .i64 a0_0, .int .i64 a0_1, .slice none 0 0]) ?_ 2 _ rfl; (with_reducible repeat (first | refine zao ?_ _ | refine zan ?_ | refine zac ?_ _)); refine zau (cs := #[.int .i64 a0_0, .int .i64 0, .slice none 0 0]) ?_ 1 _ rfl; (with_reducible repeat (first | refine zao ?_ _ | refine zan ?_ | refine zac ?_ _)); refine zau (cs := #[.int .i64 0, .int .i64 0, .slice none 0 0]) ?_ 0 _ rfl; (with_reducible repeat (first | refine zao ?_ _ | refine zan ?_ | refine zac ?_ _)); exact BK239.out) Try.underlying44 rfl (by kernel_rfl)) rfl ?_
  exact ⟨_, zW, by (with_reducible repeat (first | apply Kd.zbs | apply Kd.zb8 | apply Kd.V_drew)); exact Kd.zbk (Kd.V_far (p := ⟨gb239, 2, none⟩) (Kd.V_far (p := ⟨gb239, 1, none⟩) (Kd.V_far (p := ⟨gb239, 0, none⟩) (Kd.zbk HO0_2.out (fun k_ hk => (⟨hk, hk.2⟩ : _ ∧ k_ ≠ gb239))) (fun _ hk => hk.2) (.int .i64 a0_0)) (fun _ hk => hk.2) (.int .i64 a0_1)) (fun _ hk => hk.2) (.slice A0_2 l0_2.length c0_2)) (fun _ hk => hk.1.1.1), zB HB⟩
 ·
  rw [if_neg c2] at H
  have c2b0 : ((l0_2.length : Int) == a0_0) = false := beq_eq_false_iff_ne.mpr c2
  have c2b1 : ((l0_2.length : Int) != a0_0) = true := bne_iff_ne.mpr c2
  replace H := zO H
  obtain ⟨⟨t240, t241, t242, t245⟩, A80, H⟩ := H
  try dsimp only at H
  have A8 := zA A80
  clear A80
  simp only [Option.some.injEq, Prod.mk.injEq] at H
  obtain ⟨rfl, rfl, rfl, rfl, rfl⟩ := H
  go_enter Try.func32, Try.ntmps32
  go_wp2_with (first | ((with_reducible refine za7 (N := 1) rfl ?_); refine za3 ?hg (N := 1) ?hd (cs := #[.int .i64 a0_0, .int .i64 a0_1, .slice A0_2 l0_2.length c0_2]) (t := 44) ?hr ?_; (case hd => rfl); (case hg => rfl); (case hr => first | (go_simp; done) | (go_simp; rfl)); intro gb238 hg w9 hbox hb; have n0_ := zA (Kd.za1 (Kd.zbl (zV HO0_2) gb238 (Nat.le_of_eq hg.symm)) hb); have n1_ := zA (zab (zB HB) hb); have n2_ := zA (hbox); have n3_ := zA ((by rw [hg]; exact (zaf (zB HB)) : w.heap.size ≤ gb238)); have n4_ := zA ((by rw [hg]; exact (zaf (zB HB)) : w.heap.size ≤ gb238)); clear HO0_2 HB; have HO0_2 := n0_; have HB := n1_; have BK238 := n2_; have GW238 := n3_; have GE238 := n4_; clear n0_ n1_ n2_ n3_ n4_ hb hbox hg) | ((with_reducible refine za7 (N := 2) rfl ?_); refine za3 ?hg (N := 2) ?hd (cs := #[.int .i64 0, .int .i64 0, .slice none 0 0]) (t := 44) ?hr ?_; (case hd => rfl); (case hg => rfl); (case hr => first | (go_simp; done) | (go_simp; rfl)); intro gb239 hg w10 hbox hb; have n0_ := zA (Kd.za1 (Kd.zbl (zV HO0_2) gb239 (Nat.le_of_eq hg.symm)) hb); have n1_ := zA (zam (g := gb238) (o := .cells #[.int .i64 a0_0, .int .i64 a0_1, .slice A0_2 l0_2.length c0_2] 44 (0, 0)) (zK BK238) hb); have n2_ := zA (zab (zB HB) hb); have n3_ := zA (hbox); have n4_ := zA ((by rw [hg]; exact (zaf (zB HB)) : w.heap.size ≤ gb239)); have n5_ := zA ((by rw [hg]; exact (zaf (zB HB)) : w.heap.size ≤ gb239)); have n6_ := zA ((by rw [hg]; exact Nat.ne_of_lt (zar (g := gb238) (o := .cells #[.int .i64 a0_0, .int .i64 a0_1, .slice A0_2 l0_2.length c0_2] 44 (0, 0)) (zK BK238)) : gb238 ≠ gb239)); have n7_ := zA ((by rw [hg]; exact Nat.ne_of_gt (zar (g := gb238) (o := .cells #[.int .i64 a0_0, .int .i64 a0_1, .slice A0_2 l0_2.length c0_2] 44 (0, 0)) (zK BK238)) : gb239 ≠ gb238)); clear HO0_2 BK238 HB; have HO0_2 := n0_; have BK238 := n1_; have HB := n2_; have BK239 := n3_; have GW239 := n4_; have GE239 := n5_; have NB238_239 := n6_; have NB239_238 := n7_; clear n0_ n1_ n2_ n3_ n4_ n5_ n6_ n7_ hb hbox hg; have hnb11 := NB238_239.out; have hnc11 := NB239_238.out; have hcz12_0 : w10.cell? ⟨gb238, 0, none⟩ = some (.int .i64 a0_0) := (za BK238.out 0).trans rfl; have hcz12_1 : w10.cell? ⟨gb238, 1, none⟩ = some (.int .i64 a0_1) := (za BK238.out 1).trans rfl; have hcz12_2 : w10.cell? ⟨gb238, 2, none⟩ = some (.slice A0_2 l0_2.length c0_2) := (za BK238.out 2).trans rfl; have hfz12_0 := zaa BK238.out 0; have hfz12_1 := zaa BK238.out 1; have hfz12_2 := zaa BK238.out 2) | ((with_reducible refine za8 (f := 54) rfl ?_); refine goesL_ (some 16) rfl rfl Try.func54 (by kernel_rfl) rfl #[.agg #[.int .i64 a0_0, .int .i64 a0_1, .slice A0_2 l0_2.length c0_2], .int .i64 (-1), .int .i64 1] rfl (zE) ?_; (with_reducible refine (zax.calls a0_0 a0_1 _ _ l0_2 (-1) 1 t240 t241 t242 t245 _ ?side1 ?side2 A8.out).mono ?_); (case side1 => exact zJ (Kd.zay HO0_2.out).2.2); (case side2 => exact (Kd.zay HO0_2.out).2.1); rintro e w13 ⟨v243, rfl, ho0, hb⟩; refine ⟨_, rfl, ?_⟩; have n0_ := zA (Kd.V_elder' (zV HO0_2) (Kd.R_base ho0) hb); have n1_ := zA (Kd.R_lower (Kd.R_newM (M := fun k_ => (w.heap.size ≤ k_)) ho0 (zaf (zB HB)) (fun k_ h_ => h_)) (zaf (zB HB))); have n2_ := zA (zam (g := gb238) (o := .cells #[.int .i64 a0_0, .int .i64 a0_1, .slice A0_2 l0_2.length c0_2] 44 (0, 0)) (zK BK238) hb); have n3_ := zA (zam (g := gb239) (o := .cells #[.int .i64 0, .int .i64 0, .slice none 0 0] 44 (0, 0)) (zK BK239) hb); have n4_ := zA (zab (zB HB) hb); clear HO0_2 BK238 BK239 HB; have HO0_2 := n0_; have HO244 := n1_; have BK238 := n2_; have BK239 := n3_; have HB := n4_; clear n0_ n1_ n2_ n3_ n4_; (try clear hb); (try clear hb2); (try clear hk); (try clear hi); (try clear ho0)) | ((with_reducible refine za7 (N := 5) rfl ?_); refine za3 ?hg (N := 5) ?hd (cs := #[.int .i64 0, .int .i64 0, .slice none 0 0]) (t := 44) ?hr ?_; (case hd => rfl); (case hg => rfl); (case hr => first | (go_simp; done) | (go_simp; rfl)); intro gb246 hg w14 hbox hb; have n0_ := zA (Kd.za1 (Kd.zbl (zV HO0_2) gb246 (Nat.le_of_eq hg.symm)) hb); have n1_ := zA (Kd.zca (zR HO244) hb); have n2_ := zA (zam (g := gb238) (o := .cells #[.int .i64 a0_0, .int .i64 a0_1, .slice A0_2 l0_2.length c0_2] 44 (0, 0)) (zK BK238) hb); have n3_ := zA (zam (g := gb239) (o := .cells #[.int .i64 0, .int .i64 0, .slice none 0 0] 44 (0, 0)) (zK BK239) hb); have n4_ := zA (zab (zB HB) hb); have n5_ := zA (hbox); have n6_ := zA ((by rw [hg]; exact (zaf (zB HB)) : w.heap.size ≤ gb246)); have n7_ := zA ((by rw [hg]; exact (zaf (zB HB)) : w.heap.size ≤ gb246)); have n8_ := zA ((by rw [hg]; exact Nat.ne_of_lt (zar (g := gb238) (o := .cells #[.int .i64 a0_0, .int .i64 a0_1, .slice A0_2 l0_2.length c0_2] 44 (0, 0)) (zK BK238)) : gb238 ≠ gb246)); have n9_ := zA ((by rw [hg]; exact Nat.ne_of_gt (zar (g := gb238) (o := .cells #[.int .i64 a0_0, .int .i64 a0_1, .slice A0_2 l0_2.length c0_2] 44 (0, 0)) (zK BK238)) : gb246 ≠ gb238)); have n10_ := zA ((by rw [hg]; exact Nat.ne_of_lt (zar (g := gb239) (o := .cells #[.int .i64 0, .int .i64 0, .slice none 0 0] 44 (0, 0)) (zK BK239)) : gb239 ≠ gb246)); have n11_ := zA ((by rw [hg]; exact Nat.ne_of_gt (zar (g := gb239) (o := .cells #[.int .i64 0, .int .i64 0, .slice none 0 0] 44 (0, 0)) (zK BK239)) : gb246 ≠ gb239)); clear HO0_2 HO244 BK238 BK239 HB; have HO0_2 := n0_; have HO244 := n1_; have BK238 := n2_; have BK239 := n3_; have HB := n4_; have BK246 := n5_; have GW246 := n6_; have GE246 := n7_; have NB238_246 := n8_; have NB246_238 := n9_; have NB239_246 := n10_; have NB246_239 := n11_; clear n0_ n1_ n2_ n3_ n4_ n5_ n6_ n7_ n8_ n9_ n10_ n11_ hb hbox hg; have hnb15 := NB246_238.out; have hnc15 := NB238_246.out; have hnb16 := NB246_239.out; have hnc16 := NB239_246.out; have hcz17_0 : w14.cell? ⟨gb246, 0, none⟩ = some (.int .i64 0) := (za BK246.out 0).trans rfl; have hcz17_1 : w14.cell? ⟨gb246, 1, none⟩ = some (.int .i64 0) := (za BK246.out 1).trans rfl; have hcz17_2 : w14.cell? ⟨gb246, 2, none⟩ = some (.slice none 0 0) := (za BK246.out 2).trans rfl; have hfz17_0 := zaa BK246.out 0; have hfz17_1 := zaa BK246.out 1; have hfz17_2 := zaa BK246.out 2; obtain ⟨Ao18, co18, eo18⟩ := Kd.zbv HO244.out; subst eo18; have hcz19_0 : w14.cell? ⟨gb239, 0, none⟩ = some (.int .i64 0) := (za BK239.out 0).trans rfl; have hcz19_1 : w14.cell? ⟨gb239, 1, none⟩ = some (.int .i64 0) := (za BK239.out 1).trans rfl; have hcz19_2 : w14.cell? ⟨gb239, 2, none⟩ = some (.slice none 0 0) := (za BK239.out 2).trans rfl; have hfz19_0 := zaa BK239.out 0; have hfz19_1 := zaa BK239.out 1; have hfz19_2 := zaa BK239.out 2))
  refine bodyPost_ret (zbu rfl _ _ gb239 44 #[.int .i64 t240, .int .i64 t241, .slice Ao18 t242.length co18] (0, 0) _ rfl (by (with_reducible repeat (first | refine zao ?_ _ | refine zan ?_ | refine zac ?_ _)); refine zau (cs := #[.int .i64 t240, .int .i64 t241, .slice none 0 0]) ?_ 2 _ rfl; (with_reducible repeat (first | refine zao ?_ _ | refine zan ?_ | refine zac ?_ _)); refine zau (cs := #[.int .i64 t240, .int .i64 0, .slice none 0 0]) ?_ 1 _ rfl; (with_reducible repeat (first | refine zao ?_ _ | refine zan ?_ | refine zac ?_ _)); refine zau (cs := #[.int .i64 0, .int .i64 0, .slice none 0 0]) ?_ 0 _ rfl; (with_reducible repeat (first | refine zao ?_ _ | refine zan ?_ | refine zac ?_ _)); refine blk_far ?_ NB239_246.out _; (with_reducible repeat (first | refine zao ?_ _ | refine zan ?_ | refine zac ?_ _)); refine blk_far ?_ NB239_246.out _; (with_reducible repeat (first | refine zao ?_ _ | refine zan ?_ | refine zac ?_ _)); refine blk_far ?_ NB239_246.out _; (with_reducible repeat (first | refine zao ?_ _ | refine zan ?_ | refine zac ?_ _)); exact BK239.out) Try.underlying44 rfl (by kernel_rfl)) rfl ?_
  exact ⟨_, zW, Kd.zbk (Kd.R_V (by (with_reducible repeat (first | apply Kd.zcb | apply Kd.zb9 | apply Kd.R_drew)); exact Kd.zbn (Kd.R_far (p := ⟨gb239, 2, none⟩) (Kd.R_far (p := ⟨gb239, 1, none⟩) (Kd.R_far (p := ⟨gb239, 0, none⟩) (Kd.R_far (p := ⟨gb246, 2, none⟩) (Kd.R_far (p := ⟨gb246, 1, none⟩) (Kd.R_far (p := ⟨gb246, 0, none⟩) (Kd.R_types (Kd.R_types HO244.out BK246.out (by decide)) BK239.out (by decide)) (fun _ hk => hk.1.2) (.int .i64 t240)) (fun _ hk => hk.1.2) (.int .i64 t241)) (fun _ hk => hk.1.2) (.slice Ao18 t242.length co18)) (fun _ hk => hk.2) (.int .i64 t240)) (fun _ hk => hk.2) (.int .i64 t241)) (fun _ hk => hk.2) (.slice Ao18 t242.length co18)) (fun _ hk => hk.1.1.1))) (fun k_ hk => by first | exact ⟨(.inr (hk.1)), hk.2⟩ | exact (.inr (hk))), zB HB⟩
def zae.l0 : Nat → Int → Int → Int → Int → Int → List (S84) → Option (Int)
 | 0, _, _, _, _, _, _ => none
 | k + 1, x1, x8, x9, x248000, x248001, x248002 => if x9 < x8 then (if 0 ≤ x9 then (if x9 < (x248002.length : Int) then (if ((rd_T84 x248002 x9).f0) = x1 then (some x9) else (zae.l0 k x1 x8 (wrap64 (x9 + 1)) x248000 x248001 x248002)) else (none)) else (none)) else (some (-1))
def zae.f (k : Nat) (a0_0 : Int) (a0_1 : Int) (l0_2 : List (S84)) (a1 : Int) : Option (Int) := zae.l0 k a1 (l0_2.length : Int) 0 a0_0 a0_1 l0_2
theorem zae.calls (k : Nat) (a0_0 : Int) (a0_1 : Int) (A0_2 : Option Addr) (c0_2 : Nat) (l0_2 : List (S84)) (a1 : Int) (r : Int) (w : World) (hr0_2 : Kd.C k84 w A0_2 l0_2.length l0_2) (hc0_2 : l0_2.length ≤ c0_2) (h : zae.f k a0_0 a0_1 l0_2 a1 = some r) :
  Calls Try.prog 55 #[.agg #[.int .i64 a0_0, .int .i64 a0_1, .slice A0_2 l0_2.length c0_2], .int .i64 a1] w fun e w' => e = .returned (.int .i64 r) ∧ Below w.heap.size w w' := by
 have hu44 := Try.underlying44
 have HR0_2 := zA hr0_2
 have HC0_2 := zA hc0_2
 clear hr0_2 hc0_2
 have HB := zA (Below.refl w.heap.size w)
 have H : (zae.l0 k a1 (l0_2.length : Int) 0 a0_0 a0_1 l0_2) = some r := h
 clear h
 have H' := zA H
 clear H
 go_enter Try.func55, Try.ntmps55
 go_wp2_with (first | ((with_reducible refine za7 (N := 2) rfl ?_); refine za3 ?hg (N := 2) ?hd (cs := #[.int .i64 a0_0, .int .i64 a0_1, .slice A0_2 l0_2.length c0_2]) (t := 44) ?hr ?_; (case hd => rfl); (case hg => rfl); (case hr => first | (go_simp; done) | (go_simp; rfl)); intro gb247 hg w3 hbox hb; have n0_ := zA (zab (zB HB) hb); have n1_ := zA (hbox); have n2_ := zA ((by rw [hg]; exact (zaf (zB HB)) : w.heap.size ≤ gb247)); have n3_ := zA ((by rw [hg]; exact (zaf (zB HB)) : w.heap.size ≤ gb247)); clear HB; have HB := n0_; have BK247 := n1_; have GW247 := n2_; have GE247 := n3_; clear n0_ n1_ n2_ n3_ hb hbox hg; have hcz4_0 : w3.cell? ⟨gb247, 0, none⟩ = some (.int .i64 a0_0) := (za BK247.out 0).trans rfl; have hcz4_1 : w3.cell? ⟨gb247, 1, none⟩ = some (.int .i64 a0_1) := (za BK247.out 1).trans rfl; have hcz4_2 : w3.cell? ⟨gb247, 2, none⟩ = some (.slice A0_2 l0_2.length c0_2) := (za BK247.out 2).trans rfl; have hfz4_0 := zaa BK247.out 0; have hfz4_1 := zaa BK247.out 1; have hfz4_2 := zaa BK247.out 2))
 go_loopg [9] k (fun kq v9 w' => ∃ (x9_1 : Int), v9 = .int .i64 x9_1 ∧ Aside0 (zae.l0 kq a1 (l0_2.length : Int) x9_1 a0_0 a0_1 l0_2 = some r) ∧ Aside0 (kq ≤ k) ∧ Aside0 (w'.heap[gb247]? = some (.cells #[.int .i64 a0_0, .int .i64 a0_1, (.slice A0_2 l0_2.length c0_2)] 44 (0, 0))) ∧ Aside0 (Below w.heap.size w w'))
 case atStart => exact ⟨(0), (zF), H', ⟨Nat.le_refl _⟩, ⟨zK BK247⟩, ⟨zB HB⟩⟩
 case round =>
  clear H'
  try clear p2
  try clear hcz4_0
  try clear hcz4_1
  try clear hcz4_2
  try clear hfz4_0
  try clear hfz4_1
  try clear hfz4_2
  obtain ⟨x9_1, rfl, HA, HK1, BK247, HB⟩ := hrel
  cases gk with
  | zero => exact absurd HA.out (by simp [zae.l0])
  | succ k1 =>
   have H := HA.out
   clear HA
   simp only [zae.l0] at H
   by_cases c5 : x9_1 < (l0_2.length : Int)
   ·
    rw [if_pos c5] at H
    have c5b0 : decide (x9_1 < (l0_2.length : Int)) = true := decide_eq_true c5
    clear c5
    by_cases c6 : 0 ≤ x9_1
    ·
     rw [if_pos c6] at H
     have c6b0 : decide (0 ≤ x9_1) = true := decide_eq_true c6
     clear c6
     by_cases c7 : x9_1 < (l0_2.length : Int)
     ·
      rw [if_pos c7] at H
      have c7b0 : decide (x9_1 < (l0_2.length : Int)) = true := decide_eq_true c7
      clear c7
      by_cases c8 : ((rd_T84 l0_2 x9_1).f0) = a1
      ·
       rw [if_pos c8] at H
       have c8b0 : (((rd_T84 l0_2 x9_1).f0) == a1) = true := beq_iff_eq.mpr c8
       have c8b1 : (((rd_T84 l0_2 x9_1).f0) != a1) = false := bne_eq_false_iff_eq.mpr c8
       clear c8
       obtain rfl := Option.some.inj H
       have hcz9_0 : wr.cell? ⟨gb247, 0, none⟩ = some (.int .i64 a0_0) := (za BK247.out 0).trans rfl
       have hcz9_1 : wr.cell? ⟨gb247, 1, none⟩ = some (.int .i64 a0_1) := (za BK247.out 1).trans rfl
       have hcz9_2 : wr.cell? ⟨gb247, 2, none⟩ = some (.slice A0_2 l0_2.length c0_2) := (za BK247.out 2).trans rfl
       have hfz9_0 := zaa BK247.out 0
       have hfz9_1 := zaa BK247.out 1
       have hfz9_2 := zaa BK247.out 2
       have p248 : 0 ≤ (x9_1 : Int) := of_decide_eq_true (by first | (with_reducible assumption) | assumption)
       have q248 : x9_1 < (l0_2.length : Int) := of_decide_eq_true (by first | (with_reducible assumption) | assumption)
       obtain ⟨ad248, e248, hx248_0, hx248_1, hx248_2, hx248_3, hx248_4⟩ := at_T84 HR0_2.out x9_1 p248 q248
       cases e248
       replace hx248_0 := (HB.out.cell (World.block_lt_of_cell? w _ hx248_0)).trans hx248_0
       replace hx248_1 := (HB.out.cell (World.block_lt_of_cell? w _ hx248_1)).trans hx248_1
       replace hx248_2 := (HB.out.cell (World.block_lt_of_cell? w _ hx248_2)).trans hx248_2
       replace hx248_3 := (HB.out.cell (World.block_lt_of_cell? w _ hx248_3)).trans hx248_3
       replace hx248_4 := (HB.out.cell (World.block_lt_of_cell? w _ hx248_4)).trans hx248_4
       replace p248 := eq_true p248
       replace q248 := eq_true q248
       go_wp2
       go_ret
       exact ⟨zW, zB HB⟩
      ·
       rw [if_neg c8] at H
       have c8b0 : (((rd_T84 l0_2 x9_1).f0) == a1) = false := beq_eq_false_iff_ne.mpr c8
       have c8b1 : (((rd_T84 l0_2 x9_1).f0) != a1) = true := bne_iff_ne.mpr c8
       have H' := zA H
       clear H
       have hcz10_0 : wr.cell? ⟨gb247, 0, none⟩ = some (.int .i64 a0_0) := (za BK247.out 0).trans rfl
       have hcz10_1 : wr.cell? ⟨gb247, 1, none⟩ = some (.int .i64 a0_1) := (za BK247.out 1).trans rfl
       have hcz10_2 : wr.cell? ⟨gb247, 2, none⟩ = some (.slice A0_2 l0_2.length c0_2) := (za BK247.out 2).trans rfl
       have hfz10_0 := zaa BK247.out 0
       have hfz10_1 := zaa BK247.out 1
       have hfz10_2 := zaa BK247.out 2
       have p248 : 0 ≤ (x9_1 : Int) := of_decide_eq_true (by first | (with_reducible assumption) | assumption)
       have q248 : x9_1 < (l0_2.length : Int) := of_decide_eq_true (by first | (with_reducible assumption) | assumption)
       obtain ⟨ad248, e248, hx248_0, hx248_1, hx248_2, hx248_3, hx248_4⟩ := at_T84 HR0_2.out x9_1 p248 q248
       cases e248
       replace hx248_0 := (HB.out.cell (World.block_lt_of_cell? w _ hx248_0)).trans hx248_0
       replace hx248_1 := (HB.out.cell (World.block_lt_of_cell? w _ hx248_1)).trans hx248_1
       replace hx248_2 := (HB.out.cell (World.block_lt_of_cell? w _ hx248_2)).trans hx248_2
       replace hx248_3 := (HB.out.cell (World.block_lt_of_cell? w _ hx248_3)).trans hx248_3
       replace hx248_4 := (HB.out.cell (World.block_lt_of_cell? w _ hx248_4)).trans hx248_4
       replace p248 := eq_true p248
       replace q248 := eq_true q248
       go_wp2
       go_roundg k1
       case measure => have := HK1.out; omega
       case rel => exact ⟨(wrap64 (x9_1 + 1)), (zF), H', ⟨by have := HK1.out; omega⟩, ⟨zK BK247⟩, ⟨zB HB⟩⟩
     ·
      rw [if_neg c7] at H
      exact absurd H (by simp)
    ·
     rw [if_neg c6] at H
     exact absurd H (by simp)
   ·
    rw [if_neg c5] at H
    have c5b0 : decide (x9_1 < (l0_2.length : Int)) = false := decide_eq_false c5
    clear c5
    obtain rfl := Option.some.inj H
    go_wp2
    go_ret
    exact ⟨zW, zB HB⟩
def zaj.l0 : Nat → Int → Int → Int → Int → List (S84) → Option (Int)
 | 0, _, _, _, _, _ => none
 | k + 1, x1, x5, x250000, x250001, x250002 => if x1 ≥ 0 then ((zae.f k x250000 x250001 x250002 x1).bind fun t250 => (if 0 ≤ t250 then (if t250 < (x250002.length : Int) then (zaj.l0 k ((rd_T84 x250002 t250).f1) (wrap64 (x5 + 1)) x250000 x250001 x250002) else (none)) else (none))) else (some x5)
def zaj.f (k : Nat) (a0_0 : Int) (a0_1 : Int) (l0_2 : List (S84)) (a1 : Int) : Option (Int) := zaj.l0 k a1 0 a0_0 a0_1 l0_2
def zaj.T4 : Bool × List (List Nat × List Nat) := (true, [([], []), ([0], [0]), ([], []), ([], []), ([2, 3], [2, 3]), ([1, 4], [1, 4]), ([5], [5]), ([6], [6]), ([7, 4, 0, 1, 2, 3, 4, 5, 6, 7], [3, 7])])
def zaj.B4 : List Nat := [0, 1, 0, 0, 12, 31, 63, 127, 255]
theorem zaj.tab4 : rtab .any (opsOf Try.f43 4) = zaj.T4 := by kernel_rfl
theorem zaj.bits4 : waitsOk zaj.T4.2 zaj.B4 = true := by kernel_rfl
theorem zaj.calls (k : Nat) (a0_0 : Int) (a0_1 : Int) (A0_2 : Option Addr) (c0_2 : Nat) (l0_2 : List (S84)) (a1 : Int) (r : Int) (w : World) (hr0_2 : Kd.C k84 w A0_2 l0_2.length l0_2) (hc0_2 : l0_2.length ≤ c0_2) (h : zaj.f k a0_0 a0_1 l0_2 a1 = some r) :
  Calls Try.prog 43 #[.agg #[.int .i64 a0_0, .int .i64 a0_1, .slice A0_2 l0_2.length c0_2], .int .i64 a1] w fun e w' => e = .returned (.int .i64 r) ∧ Below w.heap.size w w' := by
 have hu44 := Try.underlying44
 have HR0_2 := zA hr0_2
 have HC0_2 := zA hc0_2
 clear hr0_2 hc0_2
 have HB := zA (Below.refl w.heap.size w)
 have H : (zaj.l0 k a1 0 a0_0 a0_1 l0_2) = some r := h
 clear h
 have H' := zA H
 clear H
 go_enter Try.func43, Try.ntmps43
 go_wp2_with (first | ((with_reducible refine za7 (N := 2) rfl ?_); refine za3 ?hg (N := 2) ?hd (cs := #[.int .i64 a0_0, .int .i64 a0_1, .slice A0_2 l0_2.length c0_2]) (t := 44) ?hr ?_; (case hd => rfl); (case hg => rfl); (case hr => first | (go_simp; done) | (go_simp; rfl)); intro gb249 hg w3 hbox hb; have n0_ := zA (zab (zB HB) hb); have n1_ := zA (hbox); have n2_ := zA ((by rw [hg]; exact (zaf (zB HB)) : w.heap.size ≤ gb249)); have n3_ := zA ((by rw [hg]; exact (zaf (zB HB)) : w.heap.size ≤ gb249)); clear HB; have HB := n0_; have BK249 := n1_; have GW249 := n2_; have GE249 := n3_; clear n0_ n1_ n2_ n3_ hb hbox hg))
 go_loopg [1, 5] k (fun kq v1 v5 w' => ∃ (x1_1 : Int) (x5_1 : Int), v1 = .int .i64 x1_1 ∧ v5 = .int .i64 x5_1 ∧ Aside0 (zaj.l0 kq x1_1 x5_1 a0_0 a0_1 l0_2 = some r) ∧ Aside0 (kq ≤ k) ∧ Aside0 (w'.heap[gb249]? = some (.cells #[.int .i64 a0_0, .int .i64 a0_1, (.slice A0_2 l0_2.length c0_2)] 44 (0, 0))) ∧ Aside0 (Below w.heap.size w w'))
 case atStart => exact ⟨(a1), (0), (zF), (zF), H', ⟨Nat.le_refl _⟩, ⟨zK BK249⟩, ⟨zB HB⟩⟩
 case round =>
  clear H'
  try clear p2
  obtain ⟨x1_1, x5_1, rfl, rfl, HA, HK1, BK249, HB⟩ := hrel
  cases gk with
  | zero => exact absurd HA.out (by simp [zaj.l0])
  | succ k1 =>
   have H := HA.out
   clear HA
   simp only [zaj.l0] at H
   by_cases c4 : x1_1 ≥ 0
   ·
    rw [if_pos c4] at H
    have c4b0 : decide (0 ≤ x1_1) = true := decide_eq_true c4
    clear c4
    replace H := zO H
    obtain ⟨t250, A50, H⟩ := H
    try dsimp only at H
    have A5 := zA A50
    clear A50
    by_cases c6 : 0 ≤ t250
    ·
     rw [if_pos c6] at H
     have c6b0 : decide (0 ≤ t250) = true := decide_eq_true c6
     clear c6
     by_cases c7 : t250 < (l0_2.length : Int)
     ·
      rw [if_pos c7] at H
      have c7b0 : decide (t250 < (l0_2.length : Int)) = true := decide_eq_true c7
      clear c7
      have H' := zA H
      clear H
      try go_wp2
      have n0_ := zA (zan BK249.out)
      have n1_ := zA (zbf HB.out)
      clear BK249 HB
      have BK249 := n0_
      have HB := n1_
      clear n0_ n1_
      have p251 : 0 ≤ (t250 : Int) := of_decide_eq_true (by first | (with_reducible assumption) | assumption)
      have q251 : t250 < (l0_2.length : Int) := of_decide_eq_true (by first | (with_reducible assumption) | assumption)
      obtain ⟨ad251, e251, hx251_0, hx251_1, hx251_2, hx251_3, hx251_4⟩ := at_T84 HR0_2.out t250 p251 q251
      have hw251_4 := hx251_4
      have hw251_3 := hx251_3
      have hw251_2 := hx251_2
      have hw251_1 := hx251_1
      have hw251_0 := hx251_0
      cases e251
      replace hx251_0 := (HB.out.cell (World.block_lt_of_cell? w _ hx251_0)).trans hx251_0
      replace hx251_1 := (HB.out.cell (World.block_lt_of_cell? w _ hx251_1)).trans hx251_1
      replace hx251_2 := (HB.out.cell (World.block_lt_of_cell? w _ hx251_2)).trans hx251_2
      replace hx251_3 := (HB.out.cell (World.block_lt_of_cell? w _ hx251_3)).trans hx251_3
      replace hx251_4 := (HB.out.cell (World.block_lt_of_cell? w _ hx251_4)).trans hx251_4
      replace p251 := eq_true p251
      replace q251 := eq_true q251
      refine start_ (n := 9) (S := fun w' => w'.cell? ⟨gb249, 0, none⟩ = some (.int .i64 a0_0) ∧ w'.cell? ⟨gb249, 1, none⟩ = some (.int .i64 a0_1) ∧ w'.cell? ⟨gb249, 2, none⟩ = some (.slice (some ad251) l0_2.length c0_2) ∧ w'.cell? (ad251.add ((t250).toNat * 5)) = some (.int .i64 ((rd_T84 l0_2 t250).f0)) ∧ w'.cell? ⟨(ad251.add ((t250).toNat * 5)).block, (ad251.add ((t250).toNat * 5)).off + 1, none⟩ = some (.int .i64 ((rd_T84 l0_2 t250).f1)) ∧ w'.cell? ⟨(ad251.add ((t250).toNat * 5)).block, (ad251.add ((t250).toNat * 5)).off + 2, none⟩ = some (.int .i64 ((rd_T84 l0_2 t250).f2)) ∧ w'.cell? ⟨(ad251.add ((t250).toNat * 5)).block, (ad251.add ((t250).toNat * 5)).off + 3, none⟩ = some (.int .i64 ((rd_T84 l0_2 t250).f3)) ∧ w'.cell? ⟨(ad251.add ((t250).toNat * 5)).block, (ad251.add ((t250).toNat * 5)).off + 4, none⟩ = some (.int .i64 ((rd_T84 l0_2 t250).f4))) (ds := []) #[false, false, false, false, false, false, false, false, false] (by kernel_rfl) rfl rfl ⟨(za BK249.out 0).trans rfl, (za BK249.out 1).trans rfl, (za BK249.out 2).trans rfl, ((HB.out.cell (World.block_lt_of_cell? w _ hw251_0)).trans hw251_0), ((HB.out.cell (World.block_lt_of_cell? w _ hw251_1)).trans hw251_1), ((HB.out.cell (World.block_lt_of_cell? w _ hw251_2)).trans hw251_2), ((HB.out.cell (World.block_lt_of_cell? w _ hw251_3)).trans hw251_3), ((HB.out.cell (World.block_lt_of_cell? w _ hw251_4)).trans hw251_4)⟩ (fun hHeld => ?_); refine zbj zaj.tab4 zaj.bits4 (fun HT_ HW_ => ?_)
      generalize wr.drew = w8 at BK249 HB hx251_0 hx251_1 hx251_2 hx251_3 hx251_4 hHeld ⊢
      refine pure_ (i := 0) (N := some 10) (v := ?_) (a' := ?_) #[true, false, false, false, false, false, false, false, false] rfl rfl (zah HT_.out (by kernel_rfl)) (fun _ _ _ h => h) (Or.inl ⟨by rfl, ?_⟩) ?_ ?_
      rotate_left
      ·
       intro w'
       go_simp
       with_reducible rfl
      rotate_left
      ·
       simp only [Act.put, zs1, zs2, zs3, i64_w, i32_w]
       rfl
      refine pure_ (i := 3) (N := some 13) (v := ?_) (a' := ?_) #[true, false, false, true, false, false, false, false, false] rfl rfl (zah HT_.out (by kernel_rfl)) (fun _ _ _ h => h) (Or.inl ⟨by rfl, ?_⟩) ?_ ?_
      rotate_left
      ·
       intro w'
       go_simp
       with_reducible rfl
      rotate_left
      ·
       simp only [Act.put, zs1, zs2, zs3, i64_w, i32_w]
       rfl
      refine take_ (i := 1) (N := some 11) (v := ?_) (a' := ?_) #[true, true, false, true, false, false, false, false, false] rfl rfl (zat HT_.out HW_.out (by kernel_rfl)) (fun _ _ _ h => h) (Or.inl ⟨by rfl, ?_⟩) hHeld ?_ ?_
      rotate_left
      ·
       rintro w' ⟨s0, s1, s2, s3, s4, s5, s6, s7⟩
       go_simp
       with_reducible rfl
      rotate_left
      ·
       simp only [Act.put, zs1, zs2, zs3, i64_w, i32_w]
       rfl
      refine take_ (i := 2) (N := some 12) (v := ?_) (a' := ?_) #[true, true, true, true, false, false, false, false, false] rfl rfl (zat HT_.out HW_.out (by kernel_rfl)) (fun _ _ _ h => h) (Or.inl ⟨by rfl, ?_⟩) hHeld ?_ ?_
      rotate_left
      ·
       rintro w' ⟨s0, s1, s2, s3, s4, s5, s6, s7⟩
       go_simp
       with_reducible rfl
      rotate_left
      ·
       simp only [Act.put, zs1, zs2, zs3, i64_w, i32_w]
       rfl
      refine one_ (i := 4) (N := some 14) #[true, true, true, true, true, false, false, false, false] rfl rfl (zbb HT_.out (by kernel_rfl)) (by decide) (fun K hK => ?_)
      refine goes_ Try.func55 (by kernel_rfl) rfl #[.agg #[.int .i64 a0_0, .int .i64 a0_1, .slice (some ad251) l0_2.length c0_2], .int .i64 x1_1] (by rfl) rfl rfl (zE) ?_
      with_reducible refine (zae.calls k1 a0_0 a0_1 _ _ l0_2 x1_1 t250 _ ?side1 ?side2 A5.out).mono ?_
      (case side1 => exact zJ (Kd.za0 HR0_2.out HB.out))
      (case side2 => exact HC0_2.out)
      rintro e w9 ⟨rfl, hb⟩
      refine ⟨_, rfl, ?_⟩
      have n0_ := zA (zam (g := gb249) (o := .cells #[.int .i64 a0_0, .int .i64 a0_1, .slice (some ad251) l0_2.length c0_2] 44 (0, 0)) (zK BK249) hb)
      have n1_ := zA (zab (zB HB) hb)
      clear BK249 HB
      have BK249 := n0_
      have HB := n1_
      clear n0_ n1_
      (try clear hb)
      (try clear hb2)
      (try clear hk)
      (try clear hi)
      refine hK.out _ _ ⟨(za BK249.out 0).trans rfl, (za BK249.out 1).trans rfl, (za BK249.out 2).trans rfl, ((HB.out.cell (World.block_lt_of_cell? w _ hw251_0)).trans hw251_0), ((HB.out.cell (World.block_lt_of_cell? w _ hw251_1)).trans hw251_1), ((HB.out.cell (World.block_lt_of_cell? w _ hw251_2)).trans hw251_2), ((HB.out.cell (World.block_lt_of_cell? w _ hw251_3)).trans hw251_3), ((HB.out.cell (World.block_lt_of_cell? w _ hw251_4)).trans hw251_4)⟩ (fun hHeld => ?_)
      clear hK K
      refine norm_ (a' := ?_) ?_ ?_
      rotate_left
      ·
       show Act.put _ (some 14) _ = _
       simp only [Act.put, zs1, zs2, zs3, i64_w, i32_w]
       rfl
      refine pure_ (i := 5) (N := some 15) (v := ?_) (a' := ?_) #[true, true, true, true, true, true, false, false, false] rfl rfl (zah HT_.out (by kernel_rfl)) (fun _ _ _ h => h) (Or.inl ⟨by rfl, ?_⟩) ?_ ?_
      rotate_left
      ·
       intro w'
       go_simp
       with_reducible rfl
      rotate_left
      ·
       simp only [Act.put, zs1, zs2, zs3, i64_w, i32_w]
       rfl
      refine pure_ (i := 6) (N := some 16) (v := ?_) (a' := ?_) #[true, true, true, true, true, true, true, false, false] rfl rfl (zah HT_.out (by kernel_rfl)) (fun _ _ _ h => h) (Or.inl ⟨by rfl, ?_⟩) ?_ ?_
      rotate_left
      ·
       intro w'
       go_simp
       with_reducible rfl
      rotate_left
      ·
       simp only [Act.put, zs1, zs2, zs3, i64_w, i32_w]
       rfl
      refine take_ (i := 7) (N := some 17) (v := ?_) (a' := ?_) #[true, true, true, true, true, true, true, true, false] rfl rfl (zat HT_.out HW_.out (by kernel_rfl)) (fun _ _ _ h => h) (Or.inl ⟨by rfl, ?_⟩) hHeld ?_ ?_
      rotate_left
      ·
       rintro w' ⟨s0, s1, s2, s3, s4, s5, s6, s7⟩
       go_simp
       with_reducible rfl
      rotate_left
      ·
       simp only [Act.put, zs1, zs2, zs3, i64_w, i32_w]
       rfl
      refine pure_ (i := 8) (N := some 1) (v := ?_) (a' := ?_) #[true, true, true, true, true, true, true, true, true] rfl rfl (zah HT_.out (by kernel_rfl)) (fun _ _ _ h => h) (Or.inl ⟨by rfl, ?_⟩) ?_ ?_
      rotate_left
      ·
       intro w'
       go_simp
       with_reducible rfl
      rotate_left
      ·
       simp only [Act.put, zs1, zs2, zs3, i64_w, i32_w]
       rfl
      refine done_ (zby HT_.out (by kernel_rfl)) ?_
      try go_wp2
      go_roundg k1
      case measure => have := HK1.out; omega
      case rel => exact ⟨((rd_T84 l0_2 t250).f1), (wrap64 (x5_1 + 1)), (zF), (zF), H', ⟨by have := HK1.out; omega⟩, ⟨zK BK249⟩, ⟨zB HB⟩⟩
     ·
      rw [if_neg c7] at H
      exact absurd H (by simp)
    ·
     rw [if_neg c6] at H
     exact absurd H (by simp)
   ·
    rw [if_neg c4] at H
    have c4b0 : decide (0 ≤ x1_1) = false := decide_eq_false c4
    clear c4
    obtain rfl := Option.some.inj H
    go_wp2
    go_ret
    exact ⟨zW, zB HB⟩
def zas.l0 : Nat → Int → List Int → Int → Int → Int → Int → List (S84) → Option (List Int)
 | 0, _, _, _, _, _, _, _ => none
 | k + 1, x1, x5, x9, x10, x253000, x253001, x253002 => if x10 < x9 then (if 0 ≤ x10 then (if x10 < (x253002.length : Int) then (if ((rd_T84 x253002 x10).f1) = x1 then (if x1 > 0 then (if x5.length < 17592186044416 then (zas.l0 k x1 (x5 ++ [(rd_T84 x253002 x10).f0]) x9 (wrap64 (x10 + 1)) x253000 x253001 x253002) else (none)) else (zas.l0 k x1 x5 x9 (wrap64 (x10 + 1)) x253000 x253001 x253002)) else (zas.l0 k x1 x5 x9 (wrap64 (x10 + 1)) x253000 x253001 x253002)) else (none)) else (none)) else (some x5)
def zas.f (k : Nat) (a0_0 : Int) (a0_1 : Int) (l0_2 : List (S84)) (a1 : Int) : Option (List Int) := zas.l0 k a1 ([] : List Int) (l0_2.length : Int) 0 a0_0 a0_1 l0_2
theorem zas.calls (k : Nat) (a0_0 : Int) (a0_1 : Int) (A0_2 : Option Addr) (c0_2 : Nat) (l0_2 : List (S84)) (a1 : Int) (r : List Int) (w : World) (hr0_2 : Kd.C k84 w A0_2 l0_2.length l0_2) (hc0_2 : l0_2.length ≤ c0_2) (h : zas.f k a0_0 a0_1 l0_2 a1 = some r) :
  Calls Try.prog 46 #[.agg #[.int .i64 a0_0, .int .i64 a0_1, .slice A0_2 l0_2.length c0_2], .int .i64 a1] w fun e w' => ∃ v0_ : Value, e = .returned (v0_) ∧ Kd.R (Kd.int .i64) 3 w' w.heap.size (fun _ => True) v0_ r ∧ Below w.heap.size w w' := by
 have hu44 := Try.underlying44
 have HR0_2 := zA hr0_2
 have HC0_2 := zA hc0_2
 clear hr0_2 hc0_2
 have HB := zA (Below.refl w.heap.size w)
 have H : (zas.l0 k a1 ([] : List Int) (l0_2.length : Int) 0 a0_0 a0_1 l0_2) = some r := h
 clear h
 have H' := zA H
 clear H
 go_enter Try.func46, Try.ntmps46
 go_wp2_with (first | ((with_reducible refine za7 (N := 2) rfl ?_); refine za3 ?hg (N := 2) ?hd (cs := #[.int .i64 a0_0, .int .i64 a0_1, .slice A0_2 l0_2.length c0_2]) (t := 44) ?hr ?_; (case hd => rfl); (case hg => rfl); (case hr => first | (go_simp; done) | (go_simp; rfl)); intro gb252 hg w3 hbox hb; have n0_ := zA (zab (zB HB) hb); have n1_ := zA (hbox); have n2_ := zA ((by rw [hg]; exact (zaf (zB HB)) : w.heap.size ≤ gb252)); have n3_ := zA ((by rw [hg]; exact (zaf (zB HB)) : w.heap.size ≤ gb252)); clear HB; have HB := n0_; have BK252 := n1_; have GW252 := n2_; have GE252 := n3_; clear n0_ n1_ n2_ n3_ hb hbox hg; have hcz4_0 : w3.cell? ⟨gb252, 0, none⟩ = some (.int .i64 a0_0) := (za BK252.out 0).trans rfl; have hcz4_1 : w3.cell? ⟨gb252, 1, none⟩ = some (.int .i64 a0_1) := (za BK252.out 1).trans rfl; have hcz4_2 : w3.cell? ⟨gb252, 2, none⟩ = some (.slice A0_2 l0_2.length c0_2) := (za BK252.out 2).trans rfl; have hfz4_0 := zaa BK252.out 0; have hfz4_1 := zaa BK252.out 1; have hfz4_2 := zaa BK252.out 2))
 go_loopg [5, 10] k (fun kq v5 v10 w' => ∃ (x5_1 : List Int) (x10_1 : Int), v10 = .int .i64 x10_1 ∧ Aside0 (zas.l0 kq a1 x5_1 (l0_2.length : Int) x10_1 a0_0 a0_1 l0_2 = some r) ∧ Aside0 (kq ≤ k) ∧ Aside0 (Kd.R (Kd.int .i64) 3 w' w.heap.size (fun _ => True) v5 x5_1) ∧ Aside0 (w'.heap[gb252]? = some (.cells #[.int .i64 a0_0, .int .i64 a0_1, (.slice A0_2 l0_2.length c0_2)] 44 (0, 0))) ∧ Aside0 (Below w.heap.size w w'))
 case atStart => exact ⟨(([] : List Int)), (0), (zF), H', ⟨Nat.le_refl _⟩, ⟨by first | exact Kd.R_nil _ _ _ _ _ | exact Kd.N_nil _ _ _ _ _ | exact Kd.V_nil _ _ _ _ _ | exact Kd.Q_nil _ _ _ _ _ | exact Kd.S_nil _ _ _ _ _⟩, ⟨zK BK252⟩, ⟨zB HB⟩⟩
 case round =>
  clear H'
  try clear p2
  try clear c4
  try clear hcz4_0
  try clear hcz4_1
  try clear hcz4_2
  try clear hfz4_0
  try clear hfz4_1
  try clear hfz4_2
  obtain ⟨x5_1, x10_1, rfl, HA, HK1, HO_5, BK252, HB⟩ := hrel
  cases gk with
  | zero => exact absurd HA.out (by simp [zas.l0])
  | succ k1 =>
   have H := HA.out
   clear HA
   simp only [zas.l0] at H
   by_cases c5 : x10_1 < (l0_2.length : Int)
   ·
    rw [if_pos c5] at H
    have c5b0 : decide (x10_1 < (l0_2.length : Int)) = true := decide_eq_true c5
    clear c5
    by_cases c6 : 0 ≤ x10_1
    ·
     rw [if_pos c6] at H
     have c6b0 : decide (0 ≤ x10_1) = true := decide_eq_true c6
     clear c6
     by_cases c7 : x10_1 < (l0_2.length : Int)
     ·
      rw [if_pos c7] at H
      have c7b0 : decide (x10_1 < (l0_2.length : Int)) = true := decide_eq_true c7
      clear c7
      by_cases c8 : ((rd_T84 l0_2 x10_1).f1) = a1
      ·
       rw [if_pos c8] at H
       have c8b0 : (((rd_T84 l0_2 x10_1).f1) == a1) = true := beq_iff_eq.mpr c8
       have c8b1 : (((rd_T84 l0_2 x10_1).f1) != a1) = false := bne_eq_false_iff_eq.mpr c8
       clear c8
       by_cases c9 : a1 > 0
       ·
        rw [if_pos c9] at H
        have c9b0 : decide (0 < a1) = true := decide_eq_true c9
        clear c9
        by_cases c10 : x5_1.length < 17592186044416
        ·
         rw [if_pos c10] at H
         have LMc10 := zA c10
         clear c10
         obtain ⟨y255, hy255⟩ : ∃ y_ : List Int, y_ = (x5_1 ++ [(rd_T84 l0_2 x10_1).f0]) := ⟨_, rfl⟩
         replace H : (zas.l0 k1 a1 y255 (l0_2.length : Int) (wrap64 (x10_1 + 1)) a0_0 a0_1 l0_2) = some r := by first | (rw [hy255]; with_reducible exact H) | (have H2_ := (Option.bind_some _ _).symm.trans H; rw [hy255]; with_reducible exact H2_) | (have H2_ := (Option.bind_some _ _).symm.trans H; with_reducible exact H2_) | with_reducible exact H | (rw [hy255]; exact H) | exact H
         have Ny255 := zA hy255
         clear hy255
         have H' := zA H
         clear H
         have hcz11_0 : wr.cell? ⟨gb252, 0, none⟩ = some (.int .i64 a0_0) := (za BK252.out 0).trans rfl
         have hcz11_1 : wr.cell? ⟨gb252, 1, none⟩ = some (.int .i64 a0_1) := (za BK252.out 1).trans rfl
         have hcz11_2 : wr.cell? ⟨gb252, 2, none⟩ = some (.slice A0_2 l0_2.length c0_2) := (za BK252.out 2).trans rfl
         have hfz11_0 := zaa BK252.out 0
         have hfz11_1 := zaa BK252.out 1
         have hfz11_2 := zaa BK252.out 2
         have p253 : 0 ≤ (x10_1 : Int) := of_decide_eq_true (by first | (with_reducible assumption) | assumption)
         have q253 : x10_1 < (l0_2.length : Int) := of_decide_eq_true (by first | (with_reducible assumption) | assumption)
         obtain ⟨ad253, e253, hx253_0, hx253_1, hx253_2, hx253_3, hx253_4⟩ := at_T84 HR0_2.out x10_1 p253 q253
         cases e253
         replace hx253_0 := (HB.out.cell (World.block_lt_of_cell? w _ hx253_0)).trans hx253_0
         replace hx253_1 := (HB.out.cell (World.block_lt_of_cell? w _ hx253_1)).trans hx253_1
         replace hx253_2 := (HB.out.cell (World.block_lt_of_cell? w _ hx253_2)).trans hx253_2
         replace hx253_3 := (HB.out.cell (World.block_lt_of_cell? w _ hx253_3)).trans hx253_3
         replace hx253_4 := (HB.out.cell (World.block_lt_of_cell? w _ hx253_4)).trans hx253_4
         replace p253 := eq_true p253
         replace q253 := eq_true q253
         have p254 : 0 ≤ (x10_1 : Int) := of_decide_eq_true (by first | (with_reducible assumption) | assumption)
         have q254 : x10_1 < (l0_2.length : Int) := of_decide_eq_true (by first | (with_reducible assumption) | assumption)
         obtain ⟨ad254, e254, hx254_0, hx254_1, hx254_2, hx254_3, hx254_4⟩ := at_T84 HR0_2.out x10_1 p254 q254
         obtain rfl : ad253 = ad254 := (by injection e254)
         replace hx254_0 := (HB.out.cell (World.block_lt_of_cell? w _ hx254_0)).trans hx254_0
         replace hx254_1 := (HB.out.cell (World.block_lt_of_cell? w _ hx254_1)).trans hx254_1
         replace hx254_2 := (HB.out.cell (World.block_lt_of_cell? w _ hx254_2)).trans hx254_2
         replace hx254_3 := (HB.out.cell (World.block_lt_of_cell? w _ hx254_3)).trans hx254_3
         replace hx254_4 := (HB.out.cell (World.block_lt_of_cell? w _ hx254_4)).trans hx254_4
         replace p254 := eq_true p254
         replace q254 := eq_true q254
         go_wp2_with (first | ((with_reducible refine zcc (b := .append) (xs := #[.tmp 25, .tmp 32]) rfl ?_); at_builtin; refine Kd.R_append (Kd.int .i64) (w0 := w) w.heap.size rfl (.tmp 25) (.tmp 32) 38 3 (.int .i64 0) 8 rfl Try.underlying38 info3 rfl (by decide) (by omega) u5 x5_1 ((rd_T84 l0_2 x10_1).f0) [.int .i64 ((rd_T84 l0_2 x10_1).f0)] (fun _ => True) (fun _ => False) rfl rfl ?aP (fun _ hk => hk.elim) ?aF ?aO ?aB ?aS ?aL ?_; (case aP => exact rfl); (case aB => exact (zB HB)); (case aF => exact (fun _ _ => trivial)); (case aO => exact (zR HO_5)); (case aS => exact (zaf (zB HB))); (case aL => have := LMc10.out; omega); intro v256 w12 ho hb hg hat; rw [← Ny255.out] at ho; have n0_ := zA (zb (g := gb252) (o := .cells #[.int .i64 a0_0, .int .i64 a0_1, .slice (some ad253) l0_2.length c0_2] 44 (0, 0)) (zK BK252) hg (Kd.R_ne HO_5.out BK252.out (by decide))); have n1_ := zA (hb); have n2_ := zA (ho); clear BK252 HB HO_5; have BK252 := n0_; have HB := n1_; have HO257 := n2_; clear n0_ n1_ n2_ ho hb hg hat))
         go_roundg k1
         case measure => have := HK1.out; omega
         case rel => exact ⟨(y255), (wrap64 (x10_1 + 1)), (zF), H', ⟨by have := HK1.out; omega⟩, ⟨zR HO257⟩, ⟨zK BK252⟩, ⟨zB HB⟩⟩
        ·
         rw [if_neg c10] at H
         exact absurd H (by simp)
       ·
        rw [if_neg c9] at H
        have c9b0 : decide (0 < a1) = false := decide_eq_false c9
        clear c9
        have H' := zA H
        clear H
        have hcz13_0 : wr.cell? ⟨gb252, 0, none⟩ = some (.int .i64 a0_0) := (za BK252.out 0).trans rfl
        have hcz13_1 : wr.cell? ⟨gb252, 1, none⟩ = some (.int .i64 a0_1) := (za BK252.out 1).trans rfl
        have hcz13_2 : wr.cell? ⟨gb252, 2, none⟩ = some (.slice A0_2 l0_2.length c0_2) := (za BK252.out 2).trans rfl
        have hfz13_0 := zaa BK252.out 0
        have hfz13_1 := zaa BK252.out 1
        have hfz13_2 := zaa BK252.out 2
        have p253 : 0 ≤ (x10_1 : Int) := of_decide_eq_true (by first | (with_reducible assumption) | assumption)
        have q253 : x10_1 < (l0_2.length : Int) := of_decide_eq_true (by first | (with_reducible assumption) | assumption)
        obtain ⟨ad253, e253, hx253_0, hx253_1, hx253_2, hx253_3, hx253_4⟩ := at_T84 HR0_2.out x10_1 p253 q253
        cases e253
        replace hx253_0 := (HB.out.cell (World.block_lt_of_cell? w _ hx253_0)).trans hx253_0
        replace hx253_1 := (HB.out.cell (World.block_lt_of_cell? w _ hx253_1)).trans hx253_1
        replace hx253_2 := (HB.out.cell (World.block_lt_of_cell? w _ hx253_2)).trans hx253_2
        replace hx253_3 := (HB.out.cell (World.block_lt_of_cell? w _ hx253_3)).trans hx253_3
        replace hx253_4 := (HB.out.cell (World.block_lt_of_cell? w _ hx253_4)).trans hx253_4
        replace p253 := eq_true p253
        replace q253 := eq_true q253
        go_wp2
        go_roundg k1
        case measure => have := HK1.out; omega
        case rel => exact ⟨(x5_1), (wrap64 (x10_1 + 1)), (zF), H', ⟨by have := HK1.out; omega⟩, ⟨zR HO_5⟩, ⟨zK BK252⟩, ⟨zB HB⟩⟩
      ·
       rw [if_neg c8] at H
       have c8b0 : (((rd_T84 l0_2 x10_1).f1) == a1) = false := beq_eq_false_iff_ne.mpr c8
       have c8b1 : (((rd_T84 l0_2 x10_1).f1) != a1) = true := bne_iff_ne.mpr c8
       have H' := zA H
       clear H
       have hcz14_0 : wr.cell? ⟨gb252, 0, none⟩ = some (.int .i64 a0_0) := (za BK252.out 0).trans rfl
       have hcz14_1 : wr.cell? ⟨gb252, 1, none⟩ = some (.int .i64 a0_1) := (za BK252.out 1).trans rfl
       have hcz14_2 : wr.cell? ⟨gb252, 2, none⟩ = some (.slice A0_2 l0_2.length c0_2) := (za BK252.out 2).trans rfl
       have hfz14_0 := zaa BK252.out 0
       have hfz14_1 := zaa BK252.out 1
       have hfz14_2 := zaa BK252.out 2
       have p253 : 0 ≤ (x10_1 : Int) := of_decide_eq_true (by first | (with_reducible assumption) | assumption)
       have q253 : x10_1 < (l0_2.length : Int) := of_decide_eq_true (by first | (with_reducible assumption) | assumption)
       obtain ⟨ad253, e253, hx253_0, hx253_1, hx253_2, hx253_3, hx253_4⟩ := at_T84 HR0_2.out x10_1 p253 q253
       cases e253
       replace hx253_0 := (HB.out.cell (World.block_lt_of_cell? w _ hx253_0)).trans hx253_0
       replace hx253_1 := (HB.out.cell (World.block_lt_of_cell? w _ hx253_1)).trans hx253_1
       replace hx253_2 := (HB.out.cell (World.block_lt_of_cell? w _ hx253_2)).trans hx253_2
       replace hx253_3 := (HB.out.cell (World.block_lt_of_cell? w _ hx253_3)).trans hx253_3
       replace hx253_4 := (HB.out.cell (World.block_lt_of_cell? w _ hx253_4)).trans hx253_4
       replace p253 := eq_true p253
       replace q253 := eq_true q253
       go_wp2
       go_roundg k1
       case measure => have := HK1.out; omega
       case rel => exact ⟨(x5_1), (wrap64 (x10_1 + 1)), (zF), H', ⟨by have := HK1.out; omega⟩, ⟨zR HO_5⟩, ⟨zK BK252⟩, ⟨zB HB⟩⟩
     ·
      rw [if_neg c7] at H
      exact absurd H (by simp)
    ·
     rw [if_neg c6] at H
     exact absurd H (by simp)
   ·
    rw [if_neg c5] at H
    have c5b0 : decide (x10_1 < (l0_2.length : Int)) = false := decide_eq_false c5
    clear c5
    obtain rfl := Option.some.inj H
    go_wp2
    go_ret
    exact ⟨_, zW, zR HO_5, zB HB⟩
def zaw.f (k : Nat) (a0_0 : Int) (a0_1 : Int) (l0_2 : List (S84)) (a1 : Int) : Option (Int) := (zas.f k a0_0 a0_1 l0_2 a1).bind fun t259 => ((zae.f k a0_0 a0_1 l0_2 a1).bind fun t262 => (if 0 ≤ t262 then (if t262 < (l0_2.length : Int) then (some (wrap64 ((t259.length : Int) + ((rd_T84 l0_2 t262).f3)))) else (none)) else (none)))
def zaw.T1 : Bool × List (List Nat × List Nat) := (true, [([], []), ([], []), ([0, 1], [0, 1]), ([2], [2]), ([], []), ([4], [4]), ([], []), ([], []), ([6, 7, 2], [6, 7]), ([5, 8], [5, 8]), ([9], [9]), ([10], [10]), ([3, 11], [3, 11]), ([12, 8, 0, 1, 2, 3, 4, 5, 6, 7, 8, 9, 10, 11, 12], [12])])
def zaw.B1 : List Nat := [0, 0, 3, 7, 0, 16, 0, 0, 199, 503, 1015, 2039, 4095, 8191]
theorem zaw.tab1 : rtab .any (opsOf Try.f56 1) = zaw.T1 := by kernel_rfl
theorem zaw.bits1 : waitsOk zaw.T1.2 zaw.B1 = true := by kernel_rfl
theorem zaw.calls (k : Nat) (a0_0 : Int) (a0_1 : Int) (A0_2 : Option Addr) (c0_2 : Nat) (l0_2 : List (S84)) (a1 : Int) (r : Int) (w : World) (hr0_2 : Kd.C k84 w A0_2 l0_2.length l0_2) (hc0_2 : l0_2.length ≤ c0_2) (h : zaw.f k a0_0 a0_1 l0_2 a1 = some r) :
  Calls Try.prog 56 #[.agg #[.int .i64 a0_0, .int .i64 a0_1, .slice A0_2 l0_2.length c0_2], .int .i64 a1] w fun e w' => e = .returned (.int .i64 r) ∧ Below w.heap.size w w' := by
 have hu44 := Try.underlying44
 have HR0_2 := zA hr0_2
 have HC0_2 := zA hc0_2
 clear hr0_2 hc0_2
 have HB := zA (Below.refl w.heap.size w)
 have H : ((zas.f k a0_0 a0_1 l0_2 a1).bind fun t259 => ((zae.f k a0_0 a0_1 l0_2 a1).bind fun t262 => (if 0 ≤ t262 then (if t262 < (l0_2.length : Int) then (some (wrap64 ((t259.length : Int) + ((rd_T84 l0_2 t262).f3)))) else (none)) else (none)))) = some r := h
 clear h
 replace H := zO H
 obtain ⟨t259, A30, H⟩ := H
 try dsimp only at H
 have A3 := zA A30
 clear A30
 replace H := zO H
 obtain ⟨t262, A40, H⟩ := H
 try dsimp only at H
 have A4 := zA A40
 clear A40
 by_cases c5 : 0 ≤ t262
 ·
  rw [if_pos c5] at H
  have c5b0 : decide (0 ≤ t262) = true := decide_eq_true c5
  clear c5
  by_cases c6 : t262 < (l0_2.length : Int)
  ·
   rw [if_pos c6] at H
   have c6b0 : decide (t262 < (l0_2.length : Int)) = true := decide_eq_true c6
   clear c6
   obtain rfl := Option.some.inj H
   go_enter Try.func56, Try.ntmps56
   try go_wp2_with (first | ((with_reducible refine za7 (N := 2) rfl ?_); refine za3 ?hg (N := 2) ?hd (cs := #[.int .i64 a0_0, .int .i64 a0_1, .slice A0_2 l0_2.length c0_2]) (t := 44) ?hr ?_; (case hd => rfl); (case hg => rfl); (case hr => first | (go_simp; done) | (go_simp; rfl)); intro gb258 hg w7 hbox hb; have n0_ := zA (zab (zB HB) hb); have n1_ := zA (hbox); have n2_ := zA ((by rw [hg]; exact (zaf (zB HB)) : w.heap.size ≤ gb258)); have n3_ := zA ((by rw [hg]; exact (zaf (zB HB)) : w.heap.size ≤ gb258)); clear HB; have HB := n0_; have BK258 := n1_; have GW258 := n2_; have GE258 := n3_; clear n0_ n1_ n2_ n3_ hb hbox hg))
   have n0_ := zA (zan BK258.out)
   have n1_ := zA (zbf HB.out)
   clear BK258 HB
   have BK258 := n0_
   have HB := n1_
   clear n0_ n1_
   have p263 : 0 ≤ (t262 : Int) := of_decide_eq_true (by first | (with_reducible assumption) | assumption)
   have q263 : t262 < (l0_2.length : Int) := of_decide_eq_true (by first | (with_reducible assumption) | assumption)
   obtain ⟨ad263, e263, hx263_0, hx263_1, hx263_2, hx263_3, hx263_4⟩ := at_T84 HR0_2.out t262 p263 q263
   have hw263_4 := hx263_4
   have hw263_3 := hx263_3
   have hw263_2 := hx263_2
   have hw263_1 := hx263_1
   have hw263_0 := hx263_0
   cases e263
   replace hx263_0 := (HB.out.cell (World.block_lt_of_cell? w _ hx263_0)).trans hx263_0
   replace hx263_1 := (HB.out.cell (World.block_lt_of_cell? w _ hx263_1)).trans hx263_1
   replace hx263_2 := (HB.out.cell (World.block_lt_of_cell? w _ hx263_2)).trans hx263_2
   replace hx263_3 := (HB.out.cell (World.block_lt_of_cell? w _ hx263_3)).trans hx263_3
   replace hx263_4 := (HB.out.cell (World.block_lt_of_cell? w _ hx263_4)).trans hx263_4
   replace p263 := eq_true p263
   replace q263 := eq_true q263
   refine start_ (n := 14) (S := fun w' => w'.cell? ⟨gb258, 0, none⟩ = some (.int .i64 a0_0) ∧ w'.cell? ⟨gb258, 1, none⟩ = some (.int .i64 a0_1) ∧ w'.cell? ⟨gb258, 2, none⟩ = some (.slice (some ad263) l0_2.length c0_2) ∧ w'.cell? (ad263.add ((t262).toNat * 5)) = some (.int .i64 ((rd_T84 l0_2 t262).f0)) ∧ w'.cell? ⟨(ad263.add ((t262).toNat * 5)).block, (ad263.add ((t262).toNat * 5)).off + 1, none⟩ = some (.int .i64 ((rd_T84 l0_2 t262).f1)) ∧ w'.cell? ⟨(ad263.add ((t262).toNat * 5)).block, (ad263.add ((t262).toNat * 5)).off + 2, none⟩ = some (.int .i64 ((rd_T84 l0_2 t262).f2)) ∧ w'.cell? ⟨(ad263.add ((t262).toNat * 5)).block, (ad263.add ((t262).toNat * 5)).off + 3, none⟩ = some (.int .i64 ((rd_T84 l0_2 t262).f3)) ∧ w'.cell? ⟨(ad263.add ((t262).toNat * 5)).block, (ad263.add ((t262).toNat * 5)).off + 4, none⟩ = some (.int .i64 ((rd_T84 l0_2 t262).f4))) (ds := []) #[false, false, false, false, false, false, false, false, false, false, false, false, false, false] (by kernel_rfl) rfl rfl ⟨(za BK258.out 0).trans rfl, (za BK258.out 1).trans rfl, (za BK258.out 2).trans rfl, ((HB.out.cell (World.block_lt_of_cell? w _ hw263_0)).trans hw263_0), ((HB.out.cell (World.block_lt_of_cell? w _ hw263_1)).trans hw263_1), ((HB.out.cell (World.block_lt_of_cell? w _ hw263_2)).trans hw263_2), ((HB.out.cell (World.block_lt_of_cell? w _ hw263_3)).trans hw263_3), ((HB.out.cell (World.block_lt_of_cell? w _ hw263_4)).trans hw263_4)⟩ (fun hHeld => ?_); refine zbj zaw.tab1 zaw.bits1 (fun HT_ HW_ => ?_)
   generalize w7.drew = w8 at BK258 HB hx263_0 hx263_1 hx263_2 hx263_3 hx263_4 hHeld ⊢
   refine pure_ (i := 1) (N := some 6) (v := ?_) (a' := ?_) #[false, true, false, false, false, false, false, false, false, false, false, false, false, false] rfl rfl (zah HT_.out (by kernel_rfl)) (fun _ _ _ h => h) (Or.inl ⟨by rfl, ?_⟩) ?_ ?_
   rotate_left
   ·
    intro w'
    go_simp
    with_reducible rfl
   rotate_left
   ·
    simp only [Act.put, zs1, zs2, zs3, i64_w, i32_w]
    rfl
   refine pure_ (i := 4) (N := some 9) (v := ?_) (a' := ?_) #[false, true, false, false, true, false, false, false, false, false, false, false, false, false] rfl rfl (zah HT_.out (by kernel_rfl)) (fun _ _ _ h => h) (Or.inl ⟨by rfl, ?_⟩) ?_ ?_
   rotate_left
   ·
    intro w'
    go_simp
    with_reducible rfl
   rotate_left
   ·
    simp only [Act.put, zs1, zs2, zs3, i64_w, i32_w]
    rfl
   refine pure_ (i := 7) (N := some 12) (v := ?_) (a' := ?_) #[false, true, false, false, true, false, false, true, false, false, false, false, false, false] rfl rfl (zah HT_.out (by kernel_rfl)) (fun _ _ _ h => h) (Or.inl ⟨by rfl, ?_⟩) ?_ ?_
   rotate_left
   ·
    intro w'
    go_simp
    with_reducible rfl
   rotate_left
   ·
    simp only [Act.put, zs1, zs2, zs3, i64_w, i32_w]
    rfl
   refine take_ (i := 0) (N := some 5) (v := ?_) (a' := ?_) #[true, true, false, false, true, false, false, true, false, false, false, false, false, false] rfl rfl (zat HT_.out HW_.out (by kernel_rfl)) (fun _ _ _ h => h) (Or.inl ⟨by rfl, ?_⟩) hHeld ?_ ?_
   rotate_left
   ·
    rintro w' ⟨s0, s1, s2, s3, s4, s5, s6, s7⟩
    go_simp
    with_reducible rfl
   rotate_left
   ·
    simp only [Act.put, zs1, zs2, zs3, i64_w, i32_w]
    rfl
   refine take_ (i := 5) (N := some 10) (v := ?_) (a' := ?_) #[true, true, false, false, true, true, false, true, false, false, false, false, false, false] rfl rfl (zat HT_.out HW_.out (by kernel_rfl)) (fun _ _ _ h => h) (Or.inl ⟨by rfl, ?_⟩) hHeld ?_ ?_
   rotate_left
   ·
    rintro w' ⟨s0, s1, s2, s3, s4, s5, s6, s7⟩
    go_simp
    with_reducible rfl
   rotate_left
   ·
    simp only [Act.put, zs1, zs2, zs3, i64_w, i32_w]
    rfl
   refine take_ (i := 6) (N := some 11) (v := ?_) (a' := ?_) #[true, true, false, false, true, true, true, true, false, false, false, false, false, false] rfl rfl (zat HT_.out HW_.out (by kernel_rfl)) (fun _ _ _ h => h) (Or.inl ⟨by rfl, ?_⟩) hHeld ?_ ?_
   rotate_left
   ·
    rintro w' ⟨s0, s1, s2, s3, s4, s5, s6, s7⟩
    go_simp
    with_reducible rfl
   rotate_left
   ·
    simp only [Act.put, zs1, zs2, zs3, i64_w, i32_w]
    rfl
   refine one_ (i := 2) (N := some 7) #[true, true, true, false, true, true, true, true, false, false, false, false, false, false] rfl rfl (zbb HT_.out (by kernel_rfl)) (by decide) (fun K hK => ?_)
   refine goes_ Try.func46 (by kernel_rfl) rfl #[.agg #[.int .i64 a0_0, .int .i64 a0_1, .slice (some ad263) l0_2.length c0_2], .int .i64 a1] (by rfl) rfl rfl (zE) ?_
   with_reducible refine (zas.calls k a0_0 a0_1 _ _ l0_2 a1 t259 _ ?side1 ?side2 A3.out).mono ?_
   (case side1 => exact zJ (Kd.za0 HR0_2.out HB.out))
   (case side2 => exact HC0_2.out)
   rintro e w9 ⟨v260, rfl, ho0, hb⟩
   refine ⟨_, rfl, ?_⟩
   have n0_ := zA (Kd.R_lower ho0 (zaf (zB HB)))
   have n1_ := zA (zam (g := gb258) (o := .cells #[.int .i64 a0_0, .int .i64 a0_1, .slice (some ad263) l0_2.length c0_2] 44 (0, 0)) (zK BK258) hb)
   have n2_ := zA (zab (zB HB) hb)
   clear BK258 HB
   have HO261 := n0_
   have BK258 := n1_
   have HB := n2_
   clear n0_ n1_ n2_
   (try clear hb)
   (try clear hb2)
   (try clear hk)
   (try clear hi)
   (try clear ho0)
   obtain ⟨Ao10, co10, eo10⟩ := Kd.zbv HO261.out
   (first | subst eo10 | (injection eo10 with f1_ f2_ f3_; have f4_ := f1_.symm; have f5_ := f3_.symm; clear f1_ f2_ f3_; subst f4_; subst f5_))
   refine hK.out _ _ ⟨(za BK258.out 0).trans rfl, (za BK258.out 1).trans rfl, (za BK258.out 2).trans rfl, ((HB.out.cell (World.block_lt_of_cell? w _ hw263_0)).trans hw263_0), ((HB.out.cell (World.block_lt_of_cell? w _ hw263_1)).trans hw263_1), ((HB.out.cell (World.block_lt_of_cell? w _ hw263_2)).trans hw263_2), ((HB.out.cell (World.block_lt_of_cell? w _ hw263_3)).trans hw263_3), ((HB.out.cell (World.block_lt_of_cell? w _ hw263_4)).trans hw263_4)⟩ (fun hHeld => ?_)
   clear hK K
   refine norm_ (a' := ?_) ?_ ?_
   rotate_left
   ·
    show Act.put _ (some 7) _ = _
    simp only [Act.put, zs1, zs2, zs3, i64_w, i32_w]
    rfl
   refine pure_ (i := 3) (N := some 8) (v := ?_) (a' := ?_) #[true, true, true, true, true, true, true, true, false, false, false, false, false, false] rfl rfl (zah HT_.out (by kernel_rfl)) (fun _ _ _ h => h) (Or.inl ⟨by rfl, ?_⟩) ?_ ?_
   rotate_left
   ·
    intro w'
    go_simp
    with_reducible rfl
   rotate_left
   ·
    simp only [Act.put, zs1, zs2, zs3, i64_w, i32_w]
    rfl
   refine one_ (i := 8) (N := some 13) #[true, true, true, true, true, true, true, true, true, false, false, false, false, false] rfl rfl (zbb HT_.out (by kernel_rfl)) (by decide) (fun K hK => ?_)
   refine goes_ Try.func55 (by kernel_rfl) rfl #[.agg #[.int .i64 a0_0, .int .i64 a0_1, .slice (some ad263) l0_2.length c0_2], .int .i64 a1] (by rfl) rfl rfl (zE) ?_
   with_reducible refine (zae.calls k a0_0 a0_1 _ _ l0_2 a1 t262 _ ?side1 ?side2 A4.out).mono ?_
   (case side1 => exact zJ (Kd.za0 HR0_2.out HB.out))
   (case side2 => exact HC0_2.out)
   rintro e w11 ⟨rfl, hb⟩
   refine ⟨_, rfl, ?_⟩
   have n0_ := zA (Kd.zca (zR HO261) hb)
   have n1_ := zA (zam (g := gb258) (o := .cells #[.int .i64 a0_0, .int .i64 a0_1, .slice (some ad263) l0_2.length c0_2] 44 (0, 0)) (zK BK258) hb)
   have n2_ := zA (zab (zB HB) hb)
   clear HO261 BK258 HB
   have HO261 := n0_
   have BK258 := n1_
   have HB := n2_
   clear n0_ n1_ n2_
   (try clear hb)
   (try clear hb2)
   (try clear hk)
   (try clear hi)
   refine hK.out _ _ ⟨(za BK258.out 0).trans rfl, (za BK258.out 1).trans rfl, (za BK258.out 2).trans rfl, ((HB.out.cell (World.block_lt_of_cell? w _ hw263_0)).trans hw263_0), ((HB.out.cell (World.block_lt_of_cell? w _ hw263_1)).trans hw263_1), ((HB.out.cell (World.block_lt_of_cell? w _ hw263_2)).trans hw263_2), ((HB.out.cell (World.block_lt_of_cell? w _ hw263_3)).trans hw263_3), ((HB.out.cell (World.block_lt_of_cell? w _ hw263_4)).trans hw263_4)⟩ (fun hHeld => ?_)
   clear hK K
   refine norm_ (a' := ?_) ?_ ?_
   rotate_left
   ·
    show Act.put _ (some 13) _ = _
    simp only [Act.put, zs1, zs2, zs3, i64_w, i32_w]
    rfl
   refine pure_ (i := 9) (N := some 14) (v := ?_) (a' := ?_) #[true, true, true, true, true, true, true, true, true, true, false, false, false, false] rfl rfl (zah HT_.out (by kernel_rfl)) (fun _ _ _ h => h) (Or.inl ⟨by rfl, ?_⟩) ?_ ?_
   rotate_left
   ·
    intro w'
    go_simp
    with_reducible rfl
   rotate_left
   ·
    simp only [Act.put, zs1, zs2, zs3, i64_w, i32_w]
    rfl
   refine pure_ (i := 10) (N := some 15) (v := ?_) (a' := ?_) #[true, true, true, true, true, true, true, true, true, true, true, false, false, false] rfl rfl (zah HT_.out (by kernel_rfl)) (fun _ _ _ h => h) (Or.inl ⟨by rfl, ?_⟩) ?_ ?_
   rotate_left
   ·
    intro w'
    go_simp
    with_reducible rfl
   rotate_left
   ·
    simp only [Act.put, zs1, zs2, zs3, i64_w, i32_w]
    rfl
   refine take_ (i := 11) (N := some 16) (v := ?_) (a' := ?_) #[true, true, true, true, true, true, true, true, true, true, true, true, false, false] rfl rfl (zat HT_.out HW_.out (by kernel_rfl)) (fun _ _ _ h => h) (Or.inl ⟨by rfl, ?_⟩) hHeld ?_ ?_
   rotate_left
   ·
    rintro w' ⟨s0, s1, s2, s3, s4, s5, s6, s7⟩
    go_simp
    with_reducible rfl
   rotate_left
   ·
    simp only [Act.put, zs1, zs2, zs3, i64_w, i32_w]
    rfl
   refine pure_ (i := 12) (N := some 17) (v := ?_) (a' := ?_) #[true, true, true, true, true, true, true, true, true, true, true, true, true, false] rfl rfl (zah HT_.out (by kernel_rfl)) (fun _ _ _ h => h) (Or.inl ⟨by rfl, ?_⟩) ?_ ?_
   rotate_left
   ·
    intro w'
    go_simp
    with_reducible rfl
   rotate_left
   ·
    simp only [Act.put, zs1, zs2, zs3, i64_w, i32_w]
    rfl
   refine pure_ (i := 13) (N := some 4) (v := ?_) (a' := ?_) #[true, true, true, true, true, true, true, true, true, true, true, true, true, true] rfl rfl (zah HT_.out (by kernel_rfl)) (fun _ _ _ h => h) (Or.inl ⟨by rfl, ?_⟩) ?_ ?_
   rotate_left
   ·
    intro w'
    go_simp
    with_reducible rfl
   rotate_left
   ·
    simp only [Act.put, zs1, zs2, zs3, i64_w, i32_w]
    rfl
   refine done_ (zby HT_.out (by kernel_rfl)) ?_
   try go_wp2
   go_ret
   exact ⟨zW, zB HB⟩
  ·
   rw [if_neg c6] at H
   exact absurd H (by simp)
 ·
  rw [if_neg c5] at H
  exact absurd H (by simp)
end Go.Proofs.Ytlmjdchcgfpngaa.P
end
