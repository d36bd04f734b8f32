-- Written by a program of this session (wip/tools/shake.py) out of its own texts and of the kit's printed ones; not trusted: Lean checks it.
import Derived.Test.YthiicmanfpmipaaGreatDoorZFillScales6
set_option maxHeartbeats 8000000
set_option maxRecDepth 100000
set_option linter.unusedVariables false
set_option linter.unusedSimpArgs false
section
namespace Go.Proofs.YthiicmanfpmipaaGreatDoor.P
open Go.RowKit Go.Proofs.YthiicmanfpmipaaGreatDoorW.PrintWords Go.Proofs.YthiicmanfpmipaaGreatDoorW.PrintLast Go.Proofs.YthiicmanfpmipaaGreatDoorW.PrintMore
attribute [local go_sem] zci zcj zcs zcr zb9 zca zcg zch
def giv (L : Rat) (p : Nat × Nat) : Rat := if L * (p.1 : Rat) ≤ (p.2 : Rat) then L * (p.1 : Rat) else (p.2 : Rat)
def tot (L : Rat) : List (Nat × Nat) → Rat
 | [] => 0
 | p :: l => giv L p + tot L l
def wsum : List (Nat × Nat) → Rat
 | [] => 0
 | p :: l => (p.1 : Rat) + wsum l
def csum : List (Nat × Nat) → Rat
 | [] => 0
 | p :: l => (p.2 : Rat) + csum l
def IsLev (l : List (Nat × Nat)) (x L : Rat) : Prop := 0 ≤ L ∧ tot L l = x ∧ ∀ M, 0 ≤ M → M < L → tot M l < x
theorem zc6 {a b c : Rat} (h : a ≤ b) (hc : 0 ≤ c) : a * c ≤ b * c := Rat.mul_le_mul_of_nonneg_right h hc
theorem zbw (n : Nat) : (0 : Rat) ≤ (n : Rat) := Rat.natCast_nonneg
theorem giv_mono {L M : Rat} (h : L ≤ M) (p : Nat × Nat) : giv L p ≤ giv M p := by
 have h1 := zc6 h (zbw p.1)
 unfold giv
 split <;> split <;> grind
theorem tot_mono {L M : Rat} (h : L ≤ M) : ∀ l, tot L l ≤ tot M l
 | [] => Rat.le_refl
 | p :: l => by
  have h1 := giv_mono h p
  have h2 := tot_mono h l
  show giv L p + tot L l ≤ giv M p + tot M l
  grind
theorem giv_le (L : Rat) (p : Nat × Nat) : giv L p ≤ (p.2 : Rat) := by
 unfold giv
 split <;> grind
theorem giv_nonneg {L : Rat} (h : 0 ≤ L) (p : Nat × Nat) : 0 ≤ giv L p := by
 have h1 := zc6 h (zbw p.1)
 have h2 := zbw p.2
 unfold giv
 split <;> grind
theorem lev_unique {l : List (Nat × Nat)} {x L M : Rat} (h1 : IsLev l x L) (h2 : IsLev l x M) : L = M := by
 obtain ⟨a0, a1, a2⟩ := h1
 obtain ⟨b0, b1, b2⟩ := h2
 have c1 : ¬ M < L := fun h => by have := a2 M b0 h; grind
 have c2 : ¬ L < M := fun h => by have := b2 L a0 h; grind
 grind
theorem tot_app (L : Rat) : ∀ a b, tot L (a ++ b) = tot L a + tot L b
 | [], b => by show tot L b = 0 + tot L b; grind
 | p :: a, b => by
  have := tot_app L a b
  show giv L p + tot L (a ++ b) = giv L p + tot L a + tot L b
  grind
theorem tot_perm (L : Rat) {a b : List (Nat × Nat)} (h : a.Perm b) : tot L a = tot L b := by
 induction h with
 | nil => rfl
 | cons p _ ih => show giv L p + _ = giv L p + _; rw [ih]
 | swap p q l => show giv L q + (giv L p + tot L l) = giv L p + (giv L q + tot L l); grind
 | trans _ _ ih1 ih2 => rw [ih1, ih2]
theorem lev_perm {a b : List (Nat × Nat)} (h : a.Perm b) {x L : Rat} (hl : IsLev a x L) : IsLev b x L :=
 ⟨hl.1, by rw [← tot_perm L h]; exact hl.2.1, fun M h0 h1 => by rw [← tot_perm M h]; exact hl.2.2 M h0 h1⟩
def levP : Rat → Rat → Rat → List (Nat × Nat) → Rat
 | _, _, at_, [] => at_
 | x, o, at_, p :: l =>
  if x / o < (p.2 : Rat) / (p.1 : Rat) then x / o
  else if x - (p.2 : Rat) = 0 then (if 0 < p.2 then (p.2 : Rat) / (p.1 : Rat) else at_)
  else levP (x - (p.2 : Rat)) (o - (p.1 : Rat)) (if 0 < p.2 then (p.2 : Rat) / (p.1 : Rat) else at_) l
theorem wsum_nonneg : ∀ l, 0 ≤ wsum l
 | [] => Rat.le_refl
 | p :: l => by
  have h1 := zbw p.1
  have h2 := wsum_nonneg l
  show 0 ≤ (p.1 : Rat) + wsum l
  grind
theorem div_mul {a b : Rat} (h : 0 < b) : a / b * b = a := Rat.div_mul_cancel (by grind)
theorem tot_open {L : Rat} : ∀ l, (∀ p ∈ l, L * (p.1 : Rat) ≤ (p.2 : Rat)) → tot L l = L * wsum l
 | [], _ => by show (0 : Rat) = L * 0; grind
 | p :: l, h => by
  have h1 := h p List.mem_cons_self
  have h2 := tot_open l (fun q hq => h q (List.mem_cons_of_mem _ hq))
  show giv L p + tot L l = L * ((p.1 : Rat) + wsum l)
  unfold giv
  rw [if_pos h1, h2]
  grind
theorem tot_le_open {L : Rat} : ∀ l, tot L l ≤ L * wsum l
 | [] => by show (0 : Rat) ≤ L * 0; grind
 | p :: l => by
  have h2 := tot_le_open (L := L) l
  have h1 : giv L p ≤ L * (p.1 : Rat) := by unfold giv; split <;> grind
  show giv L p + tot L l ≤ L * ((p.1 : Rat) + wsum l)
  grind
theorem mul_lt {a b c : Rat} (h : a < b) (hc : 0 < c) : a * c < b * c := Rat.mul_lt_mul_of_pos_right h hc
theorem tot_nonneg {L : Rat} (h : 0 ≤ L) : ∀ l, 0 ≤ tot L l
 | [] => Rat.le_refl
 | p :: l => by
  have h1 := giv_nonneg h p
  have h2 := tot_nonneg h l
  show 0 ≤ giv L p + tot L l
  grind
theorem zdj {n : Nat} (h : 1 ≤ n) : (1 : Rat) ≤ (n : Rat) := by
 have : ((1 : Nat) : Rat) ≤ (n : Rat) := Rat.natCast_le_natCast.2 h
 exact this
theorem lev_ok : ∀ (l : List (Nat × Nat)) (x at_ C : Rat) (pre : List (Nat × Nat)),
  l.Pairwise (fun p q => (p.2 : Rat) / (p.1 : Rat) ≤ (q.2 : Rat) / (q.1 : Rat)) → (∀ p ∈ l, 1 ≤ p.1) → 0 ≤ at_ → (∀ M, at_ ≤ M → tot M pre = C) → (∀ M, 0 ≤ M → M < at_ → tot M pre < C) →
  at_ * wsum l ≤ x → 0 ≤ x → x ≤ csum l → (∀ p ∈ l, at_ ≤ (p.2 : Rat) / (p.1 : Rat)) → IsLev (pre ++ l) (C + x) (levP x (wsum l) at_ l)
 | [], x, at_, C, pre, _, _, h0, hpre, hlt, _, hx0, hc, _ => by
  have hx : x = 0 := by
   have : x ≤ 0 := hc
   grind
  subst hx
  rw [List.append_nil]
  refine ⟨h0, ?_, fun M h1 h2 => ?_⟩
  ·
   have := hpre at_ Rat.le_refl
   show tot at_ pre = C + 0
   grind
  ·
   have := hlt M h1 h2
   grind
 | p :: l, x, at_, C, pre, hs, hw, h0, hpre, hlt, hx, hx0, hc, hfull => by
  have hw1 := zdj (hw p List.mem_cons_self)
  have hwl := wsum_nonneg l
  have ho : 0 < (p.1 : Rat) + wsum l := by grind
  have hso : x / ((p.1 : Rat) + wsum l) * ((p.1 : Rat) + wsum l) = x := div_mul ho
  have hff : ∀ q ∈ p :: l, (q.2 : Rat) / (q.1 : Rat) * (q.1 : Rat) = (q.2 : Rat) := fun q hq => div_mul (by have := zdj (hw q hq); grind)
  have hfw := hff p List.mem_cons_self
  have hfp := hfull p List.mem_cons_self
  have hx' : at_ * ((p.1 : Rat) + wsum l) ≤ x := hx
  have hpl := List.pairwise_cons.1 hs
  have htp : ∀ M, 0 ≤ M → tot M pre ≤ C := fun M hM => by
   by_cases h : M < at_
   ·
    have := hlt M hM h
    grind
   ·
    have := hpre M (by grind)
    grind
  have hc2 := zbw p.2
  show IsLev (pre ++ p :: l) (C + x) (levP x ((p.1 : Rat) + wsum l) at_ (p :: l))
  unfold levP
  generalize x / ((p.1 : Rat) + wsum l) = s at hso ⊢
  by_cases hsf : s < (p.2 : Rat) / (p.1 : Rat)
  ·
   rw [if_pos hsf]
   have hats : at_ ≤ s := by
    apply Classical.byContradiction
    intro hn
    have := mul_lt (show s < at_ by grind) ho
    grind
   have hall : ∀ q ∈ p :: l, s * (q.1 : Rat) ≤ (q.2 : Rat) := by
    intro q hq
    have h1 : s ≤ (q.2 : Rat) / (q.1 : Rat) := by
     rcases List.mem_cons.1 hq with rfl | hq
     ·
      grind
     ·
      have := hpl.1 q hq
      grind
    have h2 := zc6 h1 (zbw q.1)
    rw [hff q hq] at h2
    exact h2
   refine ⟨by grind, ?_, fun M hM hMs => ?_⟩
   ·
    rw [tot_app, hpre s hats, tot_open _ hall]
    show C + s * ((p.1 : Rat) + wsum l) = C + x
    rw [hso]
   ·
    rw [tot_app]
    have h1 := htp M hM
    have h2 := tot_le_open (L := M) (p :: l)
    have h3 : M * wsum (p :: l) < s * wsum (p :: l) := mul_lt hMs ho
    have h4 : s * wsum (p :: l) = x := hso
    grind
  ·
   rw [if_neg hsf]
   have hfs : (p.2 : Rat) / (p.1 : Rat) ≤ s := by grind
   generalize hf : (p.2 : Rat) / (p.1 : Rat) = f at hfw hfp hfs hpl ⊢
   have hf0 : 0 ≤ f := by grind
   have hrest : f * wsum l ≤ x - (p.2 : Rat) := by
    have h1 := zc6 hfs (show 0 ≤ (p.1 : Rat) + wsum l by grind)
    rw [hso] at h1
    have h2 : f * ((p.1 : Rat) + wsum l) = f * (p.1 : Rat) + f * wsum l := Rat.mul_add ..
    grind
   have hfl : 0 ≤ f * wsum l := Rat.mul_nonneg hf0 hwl
   have hatl : at_ * wsum l ≤ x - (p.2 : Rat) ∨ 0 < p.2 := by
    by_cases h : 0 < p.2
    ·
     exact .inr h
    ·
     left
     have hz : p.2 = 0 := by omega
     have h1 : at_ * ((p.1 : Rat) + wsum l) = at_ * (p.1 : Rat) + at_ * wsum l := Rat.mul_add ..
     have h2 := Rat.mul_nonneg h0 (zbw p.1)
     rw [hz]
     show at_ * wsum l ≤ x - 0
     grind
   obtain ⟨a2, ha2⟩ : ∃ a2, (if 0 < p.2 then f else at_) = a2 := ⟨_, rfl⟩
   rw [ha2]
   have i0 : 0 ≤ a2 := by rw [← ha2]; split <;> assumption
   have iat : at_ ≤ a2 := by rw [← ha2]; split <;> first | exact hfp | exact Rat.le_refl
   have ix : a2 * wsum l ≤ x - (p.2 : Rat) := by
    rw [← ha2]
    by_cases h : 0 < p.2
    ·
     rw [if_pos h]; exact hrest
    ·
     rw [if_neg h]; exact hatl.resolve_right h
   have ipre : ∀ M, a2 ≤ M → tot M (pre ++ [p]) = C + (p.2 : Rat) := by
    intro M hM
    rw [tot_app, hpre M (by grind)]
    have e : giv M p = (p.2 : Rat) := by
     unfold giv
     by_cases h : 0 < p.2
     ·
      rw [if_pos h] at ha2
      have h1 := zc6 (show f ≤ M by grind) (zbw p.1)
      rw [hfw] at h1
      split <;> grind
     ·
      have hz : (p.2 : Rat) = 0 := by
       have : p.2 = 0 := by omega
       rw [this]; rfl
      have h1 := Rat.mul_nonneg (show 0 ≤ M by grind) (zbw p.1)
      split <;> grind
    show C + (giv M p + 0) = C + (p.2 : Rat)
    rw [e]
    grind
   have ilt : ∀ M, 0 ≤ M → M < a2 → tot M (pre ++ [p]) < C + (p.2 : Rat) := by
    intro M hM hMa
    rw [tot_app]
    show tot M pre + (giv M p + 0) < C + (p.2 : Rat)
    by_cases h : 0 < p.2
    ·
     rw [if_pos h] at ha2
     have h1 := mul_lt (show M < f by grind) (show (0 : Rat) < (p.1 : Rat) by grind)
     rw [hfw] at h1
     have h2 := htp M hM
     have e : giv M p = M * (p.1 : Rat) := by unfold giv; rw [if_pos (by grind)]
     grind
    ·
     rw [if_neg h] at ha2
     have h1 := hlt M hM (by grind)
     have h2 := giv_le M p
     grind
   have e1 : pre ++ p :: l = (pre ++ [p]) ++ l := by simp
   have e2 : C + x = (C + (p.2 : Rat)) + (x - (p.2 : Rat)) := by grind
   by_cases hz : x - (p.2 : Rat) = 0
   ·
    rw [if_pos hz]
    have ht0 : tot a2 l = 0 := by
     have h1 := tot_le_open (L := a2) l
     have h2 := tot_nonneg i0 l
     grind
    rw [e1, e2]
    refine ⟨i0, ?_, fun M hM hMa => ?_⟩
    ·
     rw [tot_app, ipre a2 Rat.le_refl, ht0]
     grind
    ·
     rw [tot_app]
     have h1 := ilt M hM hMa
     have h2 := tot_mono (show M ≤ a2 by grind) l
     grind
   ·
    rw [if_neg hz, e1, e2, show (p.1 : Rat) + wsum l - (p.1 : Rat) = wsum l by grind]
    refine lev_ok l (x - (p.2 : Rat)) a2 (C + (p.2 : Rat)) (pre ++ [p]) hpl.2 (fun q hq => hw q (List.mem_cons_of_mem _ hq)) i0 ipre ilt ix (by grind) ?_ ?_
    ·
     have : x ≤ (p.2 : Rat) + csum l := hc
     grind
    ·
     intro q hq
     have h1 := hfull q (List.mem_cons_of_mem _ hq)
     have h2 := hpl.1 q hq
     rw [← ha2]
     split <;> assumption
theorem lev_prog (l : List (Nat × Nat)) (x : Rat) (hs : l.Pairwise (fun p q => (p.2 : Rat) / (p.1 : Rat) ≤ (q.2 : Rat) / (q.1 : Rat))) (hw : ∀ p ∈ l, 1 ≤ p.1) (hx0 : 0 ≤ x) (hc : x ≤ csum l) : IsLev l x (levP x (wsum l) 0 l) := by
 have h := lev_ok l x 0 0 [] hs hw Rat.le_refl (fun _ _ => rfl) (fun M h0 h1 => by grind) (by grind) hx0 hc (fun p hp => by
  have h1 := zdj (hw p hp)
  have h2 : (p.2 : Rat) / (p.1 : Rat) * (p.1 : Rat) = (p.2 : Rat) := div_mul (by grind)
  have h3 := zbw p.2
  apply Classical.byContradiction
  intro hn
  have := mul_lt (show (p.2 : Rat) / (p.1 : Rat) < 0 by grind) (show (0 : Rat) < (p.1 : Rat) by grind)
  grind)
 rw [List.nil_append, show (0 : Rat) + x = x by grind] at h
 exact h
def ful (p : Nat × Nat) : Rat := (p.2 : Rat) / (p.1 : Rat)
def lowR (l : List (Nat × Nat)) (x : Rat) : Rat → List (Nat × Nat) → Rat
 | low, [] => low
 | low, p :: m => lowR l x (if tot (ful p) l < x ∧ low < ful p then ful p else low) m
def openR (low : Rat) : List (Nat × Nat) → Rat
 | [] => 0
 | p :: l => (if low < ful p then (p.1 : Rat) else 0) + openR low l
def levR (l : List (Nat × Nat)) (x : Rat) : Rat :=
 let low := lowR l x 0 l
 if openR low l = 0 ∨ x - tot low l = 0 then low else low + (x - tot low l) / openR low l
theorem lowR_facts (l : List (Nat × Nat)) (x : Rat) : ∀ (m : List (Nat × Nat)) (low : Rat), 0 ≤ low → (low = 0 ∨ tot low l < x) →
  low ≤ lowR l x low m ∧ (lowR l x low m = 0 ∨ tot (lowR l x low m) l < x) ∧ ∀ p ∈ m, lowR l x low m < ful p → x ≤ tot (ful p) l
 | [], low, h0, h => ⟨Rat.le_refl, h, fun p hp => by cases hp⟩
 | p :: m, low, h0, h => by
  unfold lowR
  by_cases hc : tot (ful p) l < x ∧ low < ful p
  ·
   rw [if_pos hc]
   obtain ⟨i1, i2, i3⟩ := lowR_facts l x m (ful p) (by have := hc.2; grind) (.inr hc.1)
   refine ⟨by have := hc.2; grind, i2, fun q hq hlt => ?_⟩
   rcases List.mem_cons.1 hq with rfl | hq
   ·
    grind
   ·
    exact i3 q hq hlt
  ·
   rw [if_neg hc]
   obtain ⟨i1, i2, i3⟩ := lowR_facts l x m low h0 h
   refine ⟨i1, i2, fun q hq hlt => ?_⟩
   rcases List.mem_cons.1 hq with rfl | hq
   ·
    apply Classical.byContradiction
    intro hn
    exact hc ⟨by grind, by grind⟩
   ·
    exact i3 q hq hlt
theorem openR_nonneg (low : Rat) : ∀ l, 0 ≤ openR low l
 | [] => Rat.le_refl
 | p :: l => by
  have h1 := zbw p.1
  have h2 := openR_nonneg low l
  show 0 ≤ (if low < ful p then (p.1 : Rat) else 0) + openR low l
  split <;> grind
theorem tot_between {low M : Rat} (hM : low ≤ M) : ∀ l : List (Nat × Nat), (∀ p ∈ l, 1 ≤ p.1) → (∀ p ∈ l, low < ful p → M ≤ ful p) → tot M l = tot low l + (M - low) * openR low l
 | [], _, _ => by show (0 : Rat) = 0 + (M - low) * 0; grind
 | p :: l, hw, h => by
  have ih := tot_between hM l (fun q hq => hw q (List.mem_cons_of_mem _ hq)) (fun q hq => h q (List.mem_cons_of_mem _ hq))
  have hp := h p List.mem_cons_self
  have hw1 := zdj (hw p List.mem_cons_self)
  have hf : ful p * (p.1 : Rat) = (p.2 : Rat) := div_mul (by grind)
  have e : giv M p = giv low p + (M - low) * (if low < ful p then (p.1 : Rat) else 0) := by
   by_cases hc : low < ful p
   ·
    have h1 := zc6 (hp hc) (zbw p.1)
    have h2 := zc6 (show low ≤ ful p by grind) (zbw p.1)
    rw [hf] at h1 h2
    unfold giv
    rw [if_pos h1, if_pos h2, if_pos hc]
    grind
   ·
    have h1 := zc6 (show ful p ≤ low by grind) (zbw p.1)
    have h2 := zc6 (show ful p ≤ M by grind) (zbw p.1)
    rw [hf] at h1 h2
    unfold giv
    rw [if_neg hc]
    split <;> split <;> grind
  show giv M p + tot M l = giv low p + tot low l + (M - low) * ((if low < ful p then (p.1 : Rat) else 0) + openR low l)
  rw [e, ih]
  grind
theorem tot_full {low : Rat} : ∀ l : List (Nat × Nat), (∀ p ∈ l, 1 ≤ p.1) → openR low l = 0 → tot low l = csum l
 | [], _, _ => rfl
 | p :: l, hw, h => by
  have hw1 := zdj (hw p List.mem_cons_self)
  have h2 := openR_nonneg low l
  have h' : (if low < ful p then (p.1 : Rat) else 0) + openR low l = 0 := h
  have hf : ful p * (p.1 : Rat) = (p.2 : Rat) := div_mul (by grind)
  have hc : ¬ low < ful p := by
   intro hc
   rw [if_pos hc] at h'
   grind
  rw [if_neg hc] at h'
  have ih := tot_full l (fun q hq => hw q (List.mem_cons_of_mem _ hq)) (show openR low l = 0 by grind)
  have h1 := zc6 (show ful p ≤ low by grind) (zbw p.1)
  rw [hf] at h1
  show giv low p + tot low l = (p.2 : Rat) + csum l
  rw [ih]
  unfold giv
  split <;> grind
theorem tot_zero : ∀ l, tot 0 l = 0
 | [] => rfl
 | p :: l => by
  have h1 := zbw p.2
  have ih := tot_zero l
  show giv 0 p + tot 0 l = 0
  rw [ih]
  unfold giv
  split <;> grind
theorem lev_ref (l : List (Nat × Nat)) (x : Rat) (hw : ∀ p ∈ l, 1 ≤ p.1) (hx0 : 0 ≤ x) (hc : x ≤ csum l) : IsLev l x (levR l x) := by
 obtain ⟨i1, i2, i3⟩ := lowR_facts l x l 0 Rat.le_refl (.inl rfl)
 unfold levR
 generalize lowR l x 0 l = low at i1 i2 i3 ⊢
 show IsLev l x (if openR low l = 0 ∨ x - tot low l = 0 then low else low + (x - tot low l) / openR low l)
 have htl : tot low l ≤ x := by
  rcases i2 with h | h
  ·
   rw [h, tot_zero]; exact hx0
  ·
   grind
 have ho := openR_nonneg low l
 by_cases hz : openR low l = 0 ∨ x - tot low l = 0
 ·
  rw [if_pos hz]
  have hx : tot low l = x := by
   rcases hz with h | h
   ·
    have := tot_full l hw h
    grind
   ·
    grind
  refine ⟨i1, hx, fun M h0 h1 => ?_⟩
  rcases i2 with h | h
  ·
   grind
  ·
   grind
 ·
  rw [if_neg hz]
  have hop : 0 < openR low l := by
   apply Classical.byContradiction
   intro hn
   exact hz (.inl (by grind))
  have hr : 0 < x - tot low l := by
   apply Classical.byContradiction
   intro hn
   exact hz (.inr (by grind))
  have hs : (x - tot low l) / openR low l * openR low l = x - tot low l := div_mul hop
  generalize (x - tot low l) / openR low l = d at hs ⊢
  have hd : 0 < d := by
   apply Classical.byContradiction
   intro hn
   have := zc6 (show d ≤ 0 by grind) ho
   grind
  have hle : ∀ p ∈ l, low < ful p → low + d ≤ ful p := by
   intro p hp hlt
   apply Classical.byContradiction
   intro hn
   obtain ⟨q, hq, hql, hqm⟩ : ∃ q ∈ l, low < ful q ∧ ∀ r ∈ l, low < ful r → ful q ≤ ful r := by
    have key : ∀ m : List (Nat × Nat), (∃ p ∈ m, low < ful p) → ∃ q ∈ m, low < ful q ∧ ∀ r ∈ m, low < ful r → ful q ≤ ful r := by
     intro m
     induction m with
     | nil => rintro ⟨p, hp, _⟩; cases hp
     | cons a m ih =>
      intro hex
      by_cases hm : ∃ p ∈ m, low < ful p
      ·
       obtain ⟨q, h1, h2, h3⟩ := ih hm
       by_cases ha : low < ful a ∧ ful a ≤ ful q
       ·
        refine ⟨a, List.mem_cons_self, ha.1, fun r hr hrl => ?_⟩
        rcases List.mem_cons.1 hr with rfl | hr
        ·
         exact Rat.le_refl
        ·
         have := h3 r hr hrl
         have := ha.2
         grind
       ·
        refine ⟨q, List.mem_cons_of_mem _ h1, h2, fun r hr hrl => ?_⟩
        rcases List.mem_cons.1 hr with rfl | hr
        ·
         apply Classical.byContradiction
         intro hne
         exact ha ⟨hrl, by grind⟩
        ·
         exact h3 r hr hrl
      ·
       obtain ⟨p, hp, hpl⟩ := hex
       rcases List.mem_cons.1 hp with rfl | hp
       ·
        refine ⟨p, List.mem_cons_self, hpl, fun r hr hrl => ?_⟩
        rcases List.mem_cons.1 hr with rfl | hr
        ·
         exact Rat.le_refl
        ·
         exact absurd ⟨r, hr, hrl⟩ hm
       ·
        exact absurd ⟨p, hp, hpl⟩ hm
    exact key l ⟨p, hp, hlt⟩
   have h1 := i3 q hq hql
   have h2 := tot_between (show low ≤ ful q by grind) l hw hqm
   have h3 := hqm p hp hlt
   have h4 : (ful q - low) * openR low l < d * openR low l := mul_lt (by grind) hop
   grind
  refine ⟨by grind, ?_, fun M h0 h1 => ?_⟩
  ·
   rw [tot_between (show low ≤ low + d by grind) l hw hle, show low + d - low = d by grind, hs]
   grind
  ·
   by_cases hM : low ≤ M
   ·
    rw [tot_between hM l hw (fun p hp hlt => by have := hle p hp hlt; grind)]
    have h2 : (M - low) * openR low l < d * openR low l := mul_lt (by grind) hop
    grind
   ·
    have h2 := tot_mono (show M ≤ low by grind) l
    grind
theorem lev_one (l s : List (Nat × Nat)) (x : Rat) (hp : s.Perm l) (hs : s.Pairwise (fun p q => (p.2 : Rat) / (p.1 : Rat) ≤ (q.2 : Rat) / (q.1 : Rat))) (hw : ∀ p ∈ l, 1 ≤ p.1) (hx0 : 0 ≤ x) (hc : x ≤ csum l) (hcs : csum s = csum l) :
  levP x (wsum s) 0 s = levR l x :=
 lev_unique (lev_perm hp (lev_prog s x hs (fun p h => hw p (hp.mem_iff.1 h)) hx0 (by rw [hcs]; exact hc))) (lev_ref l x hw hx0 hc)
def timesL (k : Nat) (l : List (Nat × Nat)) : List (Nat × Nat) := l.map fun p => (p.1 * k, p.2)
theorem giv_times (k : Nat) (hk : 1 ≤ k) (L : Rat) (p : Nat × Nat) : giv L (p.1 * k, p.2) = giv (L * (k : Rat)) p := by
 have e : L * ((p.1 * k : Nat) : Rat) = L * (k : Rat) * (p.1 : Rat) := by
  rw [Rat.natCast_mul]
  grind
 unfold giv
 show (if L * ((p.1 * k : Nat) : Rat) ≤ (p.2 : Rat) then L * ((p.1 * k : Nat) : Rat) else (p.2 : Rat)) = _
 rw [e]
theorem tot_times (k : Nat) (hk : 1 ≤ k) (L : Rat) : ∀ l, tot L (timesL k l) = tot (L * (k : Rat)) l
 | [] => rfl
 | p :: l => by
  have ih := tot_times k hk L l
  have h1 := giv_times k hk L p
  show giv L (p.1 * k, p.2) + tot L (timesL k l) = giv (L * (k : Rat)) p + tot (L * (k : Rat)) l
  rw [ih, h1]
theorem lev_times (k : Nat) (hk : 1 ≤ k) {l : List (Nat × Nat)} {x L M : Rat} (h1 : IsLev l x L) (h2 : IsLev (timesL k l) x M) : M * (k : Rat) = L := by
 have hk1 := zdj hk
 refine lev_unique (l := l) (x := x) ⟨Rat.mul_nonneg h2.1 (zbw k), ?_, fun N h0 hN => ?_⟩ h1
 ·
  rw [← tot_times k hk]
  exact h2.2.1
 ·
  have hd : N / (k : Rat) * (k : Rat) = N := div_mul (by grind)
  have hd0 : 0 ≤ N / (k : Rat) := by
   apply Classical.byContradiction
   intro hn
   have := mul_lt (show N / (k : Rat) < 0 by grind) (show (0 : Rat) < (k : Rat) by grind)
   grind
  have hdm : N / (k : Rat) < M := by
   apply Classical.byContradiction
   intro hn
   have := zc6 (show M ≤ N / (k : Rat) by grind) (zbw k)
   grind
  have := h2.2.2 _ hd0 hdm
  rw [tot_times k hk, hd] at this
  exact this
theorem giv_scales (k : Nat) (hk : 1 ≤ k) {l : List (Nat × Nat)} {x L M : Rat} (h1 : IsLev l x L) (h2 : IsLev (timesL k l) x M) (p : Nat × Nat) : giv M (p.1 * k, p.2) = giv L p := by
 rw [giv_times k hk, lev_times k hk h1 h2]
theorem giv_one {p : Nat × Nat} {x L : Rat} (h : IsLev [p] x L) : giv L p = x := by
 have h1 : giv L p + 0 = x := h.2.1
 grind
theorem ful_le {a b : Nat × Nat} (ha : 1 ≤ a.1) (hb : 1 ≤ b.1) (h : a.2 * b.1 ≤ b.2 * a.1) : (a.2 : Rat) / (a.1 : Rat) ≤ (b.2 : Rat) / (b.1 : Rat) := by
 have ha1 := zdj ha
 have hb1 := zdj hb
 have ea : (a.2 : Rat) / (a.1 : Rat) * (a.1 : Rat) = (a.2 : Rat) := div_mul (by grind)
 have eb : (b.2 : Rat) / (b.1 : Rat) * (b.1 : Rat) = (b.2 : Rat) := div_mul (by grind)
 have hq : (a.2 : Rat) * (b.1 : Rat) ≤ (b.2 : Rat) * (a.1 : Rat) := by
  have := Rat.natCast_le_natCast.2 h
  rw [Rat.natCast_mul, Rat.natCast_mul] at this
  exact this
 generalize (a.2 : Rat) / (a.1 : Rat) = x at ea ⊢
 generalize (b.2 : Rat) / (b.1 : Rat) = y at eb ⊢
 apply Classical.byContradiction
 intro hn
 have h1 := mul_lt (show y < x by grind) (show (0 : Rat) < (a.1 : Rat) by grind)
 have h2 := mul_lt h1 (show (0 : Rat) < (b.1 : Rat) by grind)
 rw [ea] at h2
 have e3 : y * (a.1 : Rat) * (b.1 : Rat) = y * (b.1 : Rat) * (a.1 : Rat) := by grind
 rw [e3, eb] at h2
 grind
theorem csum_perm {a b : List (Nat × Nat)} (h : a.Perm b) : csum a = csum b := by
 induction h with
 | nil => rfl
 | cons p _ ih => show (p.2 : Rat) + _ = (p.2 : Rat) + _; rw [ih]
 | swap p q l => show (q.2 : Rat) + ((p.2 : Rat) + csum l) = (p.2 : Rat) + ((q.2 : Rat) + csum l); grind
 | trans _ _ ih1 ih2 => rw [ih1, ih2]
theorem early_trans {a b c : Nat × Nat} (h1 : a.2 * (b.1 + 1) ≤ b.2 * (a.1 + 1)) (h2 : b.2 * (c.1 + 1) ≤ c.2 * (b.1 + 1)) : a.2 * (c.1 + 1) ≤ c.2 * (a.1 + 1) := by
 have h3 := Nat.mul_le_mul_right (c.1 + 1) h1
 have h4 := Nat.mul_le_mul_right (a.1 + 1) h2
 have e1 : a.2 * (b.1 + 1) * (c.1 + 1) = (a.2 * (c.1 + 1)) * (b.1 + 1) := by rw [Nat.mul_assoc, Nat.mul_comm (b.1 + 1), ← Nat.mul_assoc]
 have e2 : b.2 * (a.1 + 1) * (c.1 + 1) = b.2 * (c.1 + 1) * (a.1 + 1) := by rw [Nat.mul_assoc, Nat.mul_comm (a.1 + 1), ← Nat.mul_assoc]
 have e3 : c.2 * (b.1 + 1) * (a.1 + 1) = (c.2 * (a.1 + 1)) * (b.1 + 1) := by rw [Nat.mul_assoc, Nat.mul_comm (b.1 + 1), ← Nat.mul_assoc]
 have h5 : (a.2 * (c.1 + 1)) * (b.1 + 1) ≤ (c.2 * (a.1 + 1)) * (b.1 + 1) := by omega
 exact Nat.le_of_mul_le_mul_right h5 (Nat.succ_pos _)
def ratV (n d : List Int) : Rat := mkRat ((val 18446744073709551616 n : Nat) : Int) (val 18446744073709551616 d)
theorem ratV_rt {r : Rat} (h : 0 ≤ r) : ratV (rN r) (rD r) = r := by
 unfold ratV rN rD
 rw [zcv (by decide), zcv (by decide), Int.toNat_of_nonneg (Rat.num_nonneg.2 h)]
 exact Rat.mkRat_self r
def bdx (n d : List Int) : Bool := decide (0 ≤ ratV n d) && decide (n = rN (ratV n d)) && decide (d = rD (ratV n d)) && decide ((ratV n d).num.toNat < 18446744073709551616 ^ 3000) && decide ((ratV n d).den < 18446744073709551616 ^ 3000)
theorem bdx_of {n d : List Int} (h : bdx n d = true) : Bd (ratV n d) 3000 ∧ n = rN (ratV n d) ∧ d = rD (ratV n d) := by
 unfold bdx at h
 simp only [Bool.and_eq_true, decide_eq_true_eq] at h
 exact ⟨⟨h.1.1.1.1, h.1.2, h.2⟩, h.1.1.1.2, h.1.1.2⟩
theorem bdx_rt {r : Rat} (h : Bd r 3000) : bdx (rN r) (rD r) = true := by
 unfold bdx
 rw [ratV_rt h.1]
 simp only [Bool.and_eq_true, decide_eq_true_eq]
 exact ⟨⟨⟨⟨h.1, trivial⟩, trivial⟩, h.2.1⟩, h.2.2⟩
theorem bdN {x : Nat} (h : x < 18446744073709551616) : Bd (x : Rat) 1 := Bd.nat (by omega) (Nat.le_refl _)
theorem bdGiv {L : Rat} {m : Nat} (hL : Bd L m) (p : Nat × Nat) (hp1 : p.1 < 1000000) (hp2 : p.2 < 1000000) : Bd (giv L p) (m + 1) := by
 by_cases h : L * (p.1 : Rat) ≤ (p.2 : Rat)
 ·
  have e : giv L p = L * (p.1 : Rat) := by unfold giv; rw [if_pos h]
  rw [e]
  exact hL.mul (bdN (by omega))
 ·
  have e : giv L p = (p.2 : Rat) := by unfold giv; rw [if_neg h]
  rw [e]
  exact (bdN (x := p.2) (by omega)).le (by omega)
theorem cmpR_neg {r s : Rat} : cmpR r s < 0 ↔ r < s := by
 unfold cmpR
 by_cases h : r = s
 ·
  rw [if_pos h]
  constructor
  ·
   intro h1; omega
  ·
   intro h1; grind
 ·
  rw [if_neg h]
  by_cases h2 : r < s
  ·
   rw [if_pos h2]
   exact ⟨fun _ => h2, fun _ => by decide⟩
  ·
   rw [if_neg h2]
   exact ⟨fun h1 => by omega, fun h1 => absurd h1 h2⟩
theorem cmpR_pos {r s : Rat} : cmpR r s > 0 ↔ s < r := by
 unfold cmpR
 by_cases h : r = s
 ·
  rw [if_pos h]
  constructor
  ·
   intro h1; omega
  ·
   intro h1; grind
 ·
  rw [if_neg h]
  by_cases h2 : r < s
  ·
   rw [if_pos h2]
   exact ⟨fun h1 => by omega, fun h1 => by grind⟩
  ·
   rw [if_neg h2]
   exact ⟨fun _ => by grind, fun _ => by decide⟩
theorem cmpR_self (r : Rat) : cmpR r r = 0 := by unfold cmpR; rw [if_pos rfl]
theorem cmpR_le {r s : Rat} (h : r ≤ s) : ¬ cmpR r s > 0 := fun h1 => by
 have := cmpR_pos.1 h1
 grind
theorem cmpR_ge {r s : Rat} (h : s ≤ r) : ¬ cmpR r s < 0 := fun h1 => by
 have := cmpR_neg.1 h1
 grind
end Go.Proofs.YthiicmanfpmipaaGreatDoor.P
end
section
namespace Go.Proofs.YthiicmanfpmipaaGreatDoor.P
open Go.RowKit Go.Proofs.YthiicmanfpmipaaGreatDoorW.PrintWords Go.Proofs.YthiicmanfpmipaaGreatDoorW.PrintLast Go.Proofs.YthiicmanfpmipaaGreatDoorW.PrintMore
attribute [local go_sem] zci zcj zcs zcr zb9 zca zcg zch
attribute [local go_sem] Oper.semAt_some
def givF (a b : Int) (n d : List Int) : Option (List Int × List Int) := if bdx n d = true ∧ 0 ≤ a ∧ a < 1000000 ∧ 0 ≤ b ∧ b < 1000000 then some (rN (giv (ratV n d) (a.toNat, b.toNat)), rD (giv (ratV n d) (a.toNat, b.toNat))) else none
theorem givF_rt {L : Rat} (hL : Bd L 3000) (p : Nat × Nat) (hp1 : p.1 < 1000000) (hp2 : p.2 < 1000000) : givF (p.1 : Int) (p.2 : Int) (rN L) (rD L) = some (rN (giv L p), rD (giv L p)) := by
 unfold givF
 rw [if_pos ⟨bdx_rt hL, by omega, by omega, by omega, by omega⟩, ratV_rt hL.1]
 rfl
theorem givF_of {a b : Int} {n d : List Int} {r : List Int × List Int} (h : givF a b n d = some r) : ∃ (L : Rat) (p : Nat × Nat), Bd L 3000 ∧ n = rN L ∧ d = rD L ∧ a = (p.1 : Int) ∧ b = (p.2 : Int) ∧ p.1 < 1000000 ∧ p.2 < 1000000 ∧ r = (rN (giv L p), rD (giv L p)) := by
 unfold givF at h
 split at h
 ·
  rename_i hc
  obtain ⟨h1, h2, h3⟩ := bdx_of hc.1
  exact ⟨ratV n d, (a.toNat, b.toNat), h1, h2, h3, by have := hc.2; show a = ((a.toNat : Nat) : Int); omega, by have := hc.2; show b = ((b.toNat : Nat) : Int); omega, by have := hc.2; show a.toNat < _; omega, by have := hc.2; show b.toNat < _; omega, (Option.some.inj h).symm⟩
 ·
  cases h
theorem t_IntN (n : Nat) (h : n < 9223372036854775808) (w : World) :
  Calls Tryz.prog 18 #[.int .i64 (n : Int)] w fun e w' => ∃ A c A' c', e = .returned (.agg #[.slice A (rN (n : Rat)).length c, .slice A' (rD (n : Rat)).length c']) ∧ RV w' (fun k => w.heap.size ≤ k) A c (rN (n : Rat)) A' c' (rD (n : Rat)) ∧ Below w.heap.size w w' := by
 have h1 := t_Int (n : Int) (by omega) w
 rwa [Int.toNat_natCast] at h1
def gv1T : Bool × List (List Nat × List Nat) := (true, [([], []), ([], []), ([1], [1]), ([2], [2]), ([0, 3, 3], [0, 3]), ([], []), ([5, 4, 4, 0, 1, 2, 3, 4, 5], [4, 5])])
def gv1B : List Nat := [0, 0, 2, 6, 15, 0, 63]
theorem gv1tab : rtab .any (opsOf Tryz.f40 1) = gv1T := by kernel_rfl
theorem gv1bits : waitsOk gv1T.2 gv1B = true := by kernel_rfl
theorem given_ok (a0_0 a0_1 : Int) (A1_0 : Option Addr) (c1_0 : Nat) (l1_0 : List Int) (A1_1 : Option Addr) (c1_1 : Nat) (l1_1 r1 r2 : List Int) (w : World) (hr1_0 : Kd.C (Kd.int .u64) w A1_0 l1_0.length l1_0) (hc1_0 : l1_0.length ≤ c1_0) (hr1_1 : Kd.C (Kd.int .u64) w A1_1 l1_1.length l1_1) (hc1_1 : l1_1.length ≤ c1_1) (h : givF a0_0 a0_1 l1_0 l1_1 = some (r1, r2)) :
  Calls Tryz.prog 40 #[.agg #[.int .i64 a0_0, .int .i64 a0_1], .agg #[.slice A1_0 l1_0.length c1_0, .slice A1_1 l1_1.length c1_1]] w fun e w' => ∃ v0_ v1_ : Value, e = .returned (.agg #[v0_, v1_]) ∧ Kd.V (Kd.int .u64) 82 w' w.heap.size (fun k_ => (w.heap.size ≤ k_)) v0_ r1 ∧ Kd.V (Kd.int .u64) 82 w' w.heap.size (fun k_ => (w.heap.size ≤ k_)) v1_ r2 ∧ Below w.heap.size w w' := by
 obtain ⟨L, p, hL, rfl, rfl, rfl, rfl, hp1, hp2, hr⟩ := givF_of h
 have hr1' : r1 = rN (giv L p) := congrArg Prod.fst hr
 have hr2' : r2 = rD (giv L p) := congrArg Prod.snd hr
 subst hr1'
 subst hr2'
 have HRt : Aside0 (Rt w A1_0 c1_0 (rN L) A1_1 c1_1 (rD L)) := ⟨hc1_0, hr1_0, hc1_1, hr1_1⟩
 have HL := Aside0.mk hL
 have HP : Aside0 (p.1 < 1000000 ∧ p.2 < 1000000) := ⟨hp1, hp2⟩
 clear h hr hr1_0 hc1_0 hr1_1 hc1_1 hL hp1 hp2
 go_enter Tryz.func40, Tryz.ntmps40
 go_wp2_with fail
 have hb2 := zai (zai (zdl w (.cells #[.int .i64 (p.1 : Int), .int .i64 (p.2 : Int)] 90)) (.cells #[.slice A1_0 (rN L).length c1_0, .slice A1_1 (rD L).length c1_1] 29)) (.cells #[.slice none 0 0, .slice none 0 0] 29)
 have hb3 := zai (zdl (w.alloc (.cells #[.int .i64 (p.1 : Int), .int .i64 (p.2 : Int)] 90)) (.cells #[.slice A1_0 (rN L).length c1_0, .slice A1_1 (rD L).length c1_1] 29)) (.cells #[.slice none 0 0, .slice none 0 0] 29)
 have hb4 := zdl ((w.alloc (.cells #[.int .i64 (p.1 : Int), .int .i64 (p.2 : Int)] 90)).alloc (.cells #[.slice A1_0 (rN L).length c1_0, .slice A1_1 (rD L).length c1_1] 29)) (.cells #[.slice none 0 0, .slice none 0 0] 29)
 have hB := za7 (za7 (za7 (Below.refl w.heap.size w) (.cells #[.int .i64 (p.1 : Int), .int .i64 (p.2 : Int)] 90)) (.cells #[.slice A1_0 (rN L).length c1_0, .slice A1_1 (rD L).length c1_1] 29)) (.cells #[.slice none 0 0, .slice none 0 0] 29)
 have hs : (((w.alloc (.cells #[.int .i64 (p.1 : Int), .int .i64 (p.2 : Int)] 90)).alloc (.cells #[.slice A1_0 (rN L).length c1_0, .slice A1_1 (rD L).length c1_1] 29)).alloc (.cells #[.slice none 0 0, .slice none 0 0] 29)).heap.size = w.heap.size + 3 := by simp
 rw [show (w.alloc (.cells #[.int .i64 (p.1 : Int), .int .i64 (p.2 : Int)] 90)).heap.size = w.heap.size + 1 by simp] at hb3
 rw [show ((w.alloc (.cells #[.int .i64 (p.1 : Int), .int .i64 (p.2 : Int)] 90)).alloc (.cells #[.slice A1_0 (rN L).length c1_0, .slice A1_1 (rD L).length c1_1] 29)).heap.size = w.heap.size + 2 by simp] at hb4
 generalize ((w.alloc (.cells #[.int .i64 (p.1 : Int), .int .i64 (p.2 : Int)] 90)).alloc (.cells #[.slice A1_0 (rN L).length c1_0, .slice A1_1 (rD L).length c1_1] 29)).alloc (.cells #[.slice none 0 0, .slice none 0 0] 29) = w7 at hb2 hb3 hb4 hB hs ⊢
 have HB2 := Aside0.mk hb2
 have HB3 := Aside0.mk hb3
 have HB4 := Aside0.mk hb4
 have HB := Aside0.mk hB
 have HS := Aside0.mk hs
 have HR7 := Aside0.mk (HRt.out.below hB)
 clear hb2 hb3 hb4 hB hs
 have HBw70 : Aside0 (Below w7.heap.size w7 w7.drew) := ⟨(Below.refl w7.heap.size w7).drew⟩
 have HSK : Aside0 (∀ W, Below w7.heap.size w7 W → W.cell? ⟨w.heap.size + 1, 0, none⟩ = some (.slice A1_0 (rN L).length c1_0) ∧ W.cell? ⟨w.heap.size + 1, 1, none⟩ = some (.slice A1_1 (rD L).length c1_1) ∧ W.cell? ⟨w.heap.size, 0, none⟩ = some (.int .i64 (p.1 : Int))) := ⟨fun W hb => by
  have hk := (hb.block _ (zaw HB3.out)).trans HB3.out
  have hk2 := (hb.block _ (zaw HB2.out)).trans HB2.out
  exact ⟨(zac hk 0).trans rfl, (zac hk 1).trans rfl, (zac hk2 0).trans rfl⟩⟩
 refine zdi (n := 7) (S := fun W => W.cell? ⟨w.heap.size + 1, 0, none⟩ = some (.slice A1_0 (rN L).length c1_0) ∧ W.cell? ⟨w.heap.size + 1, 1, none⟩ = some (.slice A1_1 (rD L).length c1_1) ∧ W.cell? ⟨w.heap.size, 0, none⟩ = some (.int .i64 (p.1 : Int))) (ds := []) #[false, false, false, false, false, false, false] (by kernel_rfl) rfl rfl (HSK.out _ HBw70.out) (fun hHeld => ?_); refine zcn gv1tab gv1bits (fun HT_ HW_ => ?_)
 refine take_ (i := 0) (N := some 7) (v := ?_) (a' := ?_) #[true, false, false, false, false, false, false] rfl rfl (zbp HT_.out HW_.out (by kernel_rfl)) (fun _ _ _ h => h) (Or.inl ⟨by rfl, ?_⟩) hHeld ?_ ?_
 rotate_left
 ·
  rintro w' ⟨s0, s1, s2⟩
  go_simp
  with_reducible rfl
 rotate_left
 ·
  simp only [Act.put, List.setIfInBounds_toArray, List.set_cons_zero, List.set_cons_succ, i64_w, i32_w]
  rfl
 refine pure_ (i := 1) (N := some 8) (v := ?_) (a' := ?_) #[true, true, false, false, false, false, false] rfl rfl (zas HT_.out (by kernel_rfl)) (fun _ _ _ h => h) (Or.inl ⟨by rfl, ?_⟩) ?_ ?_
 rotate_left
 ·
  intro w'
  go_simp
  with_reducible rfl
 rotate_left
 ·
  simp only [Act.put, List.setIfInBounds_toArray, List.set_cons_zero, List.set_cons_succ, i64_w, i32_w]
  rfl
 refine take_ (i := 2) (N := some 9) (v := ?_) (a' := ?_) #[true, true, true, false, false, false, false] rfl rfl (zbp HT_.out HW_.out (by kernel_rfl)) (fun _ _ _ h => h) (Or.inl ⟨by rfl, ?_⟩) hHeld ?_ ?_
 rotate_left
 ·
  rintro w' ⟨s0, s1, s2⟩
  go_simp
  with_reducible rfl
 rotate_left
 ·
  simp only [Act.put, List.setIfInBounds_toArray, List.set_cons_zero, List.set_cons_succ, i64_w, i32_w]
  rfl
 refine join_ (σ := Value × Value × Nat) 1 #[true, true, true, true, true, true, false] (fun s_ => [(10, s_.1), (11, s_.2.1), (5, .pointer (some ⟨s_.2.2, 0, none⟩))]) (fun s_ w' => (w'.cell? ⟨w.heap.size + 1, 0, none⟩ = some (.slice A1_0 (rN L).length c1_0) ∧ w'.cell? ⟨w.heap.size + 1, 1, none⟩ = some (.slice A1_1 (rD L).length c1_1) ∧ w'.cell? ⟨w.heap.size, 0, none⟩ = some (.int .i64 (p.1 : Int))) ∧ (∃ A c A' c', s_.2.1 = .agg #[.slice A (rN (L * (p.1 : Rat))).length c, .slice A' (rD (L * (p.1 : Rat))).length c'] ∧ RV w' (fun k => w7.heap.size ≤ k ∧ k ≠ s_.2.2) A c (rN (L * (p.1 : Rat))) A' c' (rD (L * (p.1 : Rat)))) ∧ w'.heap[s_.2.2]? = some (.cells #[.slice none 0 0, .slice none 0 0] 29 (0, 0)) ∧ w7.heap.size ≤ s_.2.2 ∧ Below w7.heap.size w7 w') ?_ ?_
 rotate_left
 ·
  intro hJ
  refine two_ (i := 3) (j := 5) (Ni := some 10) (Nj := some 5) #[true, true, true, true, false, false, false] #[true, true, true, false, false, true, false] rfl rfl rfl rfl (two_of HT_.out (by kernel_rfl)) (by decide) (by decide) (fun K hK => ?_) (fun K hK => ?_)
  ·
   skip
   refine goes_ Tryz.func18 (by kernel_rfl) rfl #[.int .i64 (p.1 : Int)] (by rfl) rfl rfl (by (try simp only [List.map_toArray, List.map_cons, List.map_nil]); first | done | rfl) ?_
   refine (t_IntN p.1 (by have := HP.out; omega) _).mono ?_
   rintro e u1 ⟨uE00, uE01, uE02, uE03, rfl, hx, hb⟩
   refine ⟨_, rfl, ?_⟩
   have HBu1 : Aside0 (Below w7.heap.size w7 u1) := ⟨zab HBw70.out hb⟩
   have hzu1 := hb.size
   have HX0u1 := Aside0.mk hx.rt
   clear hx hb
   refine hK.out _ _ (HSK.out _ HBu1.out) (fun hHeld => ?_)
   clear hK K
   refine norm_ (a' := ?_) ?_ ?_
   rotate_left
   ·
    show Act.put _ (some 10) _ = _
    simp only [Act.put, List.setIfInBounds_toArray, List.set_cons_zero, List.set_cons_succ, i64_w, i32_w]
    rfl
   refine two_ (i := 4) (j := 5) (Ni := some 11) (Nj := some 5) #[true, true, true, true, true, false, false] #[true, true, true, true, false, true, false] rfl rfl rfl rfl (two_of HT_.out (by kernel_rfl)) (by decide) (by decide) (fun K hK => ?_) (fun K hK => ?_)
   ·
    skip
    refine goes_ Tryz.func19 (by kernel_rfl) rfl #[.agg #[.slice A1_0 (rN L).length c1_0, .slice A1_1 (rD L).length c1_1], .agg #[.slice uE00 _ uE01, .slice uE02 _ uE03]] (by rfl) rfl rfl (by (try simp only [List.map_toArray, List.map_cons, List.map_nil]); first | done | rfl) ?_
    refine (t_Mul (HR7.out.below HBu1.out) HX0u1.out HL.out (bdN (x := p.1) (by have := HP.out; omega)) (by omega)).mono ?_
    rintro e u2 ⟨uE10, uE11, uE12, uE13, rfl, hx, hb⟩
    refine ⟨_, rfl, ?_⟩
    have HBu2 : Aside0 (Below w7.heap.size w7 u2) := ⟨zab HBu1.out hb⟩
    have hzu2 := hb.size
    have HYu2 := Aside0.mk hx
    clear hx hb
    refine hK.out _ _ (HSK.out _ HBu2.out) (fun hHeld => ?_)
    clear hK K
    refine norm_ (a' := ?_) ?_ ?_
    rotate_left
    ·
     show Act.put _ (some 11) _ = _
     simp only [Act.put, List.setIfInBounds_toArray, List.set_cons_zero, List.set_cons_succ, i64_w, i32_w]
     rfl
    refine one_ (i := 5) (N := some 5) #[true, true, true, true, true, true, false] rfl rfl (zb6 HT_.out (by kernel_rfl)) (by decide) (fun K hK => ?_)
    refine box_step ?hg (N := 5) ?hd (cs := #[.slice none 0 0, .slice none 0 0]) (t := 29) ?hr ?_; (case hd => rfl); (case hg => rfl); (case hr => first | (go_simp; done) | (go_simp; rfl))
    intro gb hgb u3 hbox hb
    have HBu3 : Aside0 (Below w7.heap.size w7 u3) := ⟨zab HBu2.out hb⟩
    have HBXu3 := Aside0.mk hbox
    have hgl := zaw hbox
    have hge : w7.heap.size ≤ gb := by rw [hgb]; exact (HBu2.out).size
    have hzu3 := hb.size
    have HYu3 := Aside0.mk ((HYu2.out.old hb).mono (Q := fun k => w7.heap.size ≤ k ∧ k ≠ gb) (fun k hk => by have h0 := hk.1; have := hk.2; have := (HBu1.out).size; omega))
    clear hbox hb
    refine hK.out _ _ (HSK.out _ HBu3.out) (fun hHeld => ?_)
    clear hK K
    refine norm_ (a' := ?_) ?_ ?_
    rotate_left
    ·
     show Act.put _ (some 5) _ = _
     simp only [Act.put, List.setIfInBounds_toArray, List.set_cons_zero, List.set_cons_succ, i64_w, i32_w]
     rfl
    exact norm_ (by first | (simp only [putAll, Act.put, List.setIfInBounds_toArray, List.set_cons_zero, List.set_cons_succ]; done) | (simp only [putAll, Act.put, List.setIfInBounds_toArray, List.set_cons_zero, List.set_cons_succ]; rfl)) (hJ (_, _, gb) u3 ⟨hHeld, ⟨uE10, uE11, uE12, uE13, rfl, HYu3.out⟩, HBXu3.out, hge, HBu3.out⟩)
   ·
    skip
    refine box_step ?hg (N := 5) ?hd (cs := #[.slice none 0 0, .slice none 0 0]) (t := 29) ?hr ?_; (case hd => rfl); (case hg => rfl); (case hr => first | (go_simp; done) | (go_simp; rfl))
    intro gb hgb u2 hbox hb
    have HBu2 : Aside0 (Below w7.heap.size w7 u2) := ⟨zab HBu1.out hb⟩
    have HBXu2 := Aside0.mk hbox
    have hgl := zaw hbox
    have hge : w7.heap.size ≤ gb := by rw [hgb]; exact (HBu1.out).size
    have hzu2 := hb.size
    have HX0u2 := Aside0.mk (HX0u1.out.below hb)
    clear hbox hb
    refine hK.out _ _ (HSK.out _ HBu2.out) (fun hHeld => ?_)
    clear hK K
    refine norm_ (a' := ?_) ?_ ?_
    rotate_left
    ·
     show Act.put _ (some 5) _ = _
     simp only [Act.put, List.setIfInBounds_toArray, List.set_cons_zero, List.set_cons_succ, i64_w, i32_w]
     rfl
    refine one_ (i := 4) (N := some 11) #[true, true, true, true, true, true, false] rfl rfl (zb6 HT_.out (by kernel_rfl)) (by decide) (fun K hK => ?_)
    refine goes_ Tryz.func19 (by kernel_rfl) rfl #[.agg #[.slice A1_0 (rN L).length c1_0, .slice A1_1 (rD L).length c1_1], .agg #[.slice uE00 _ uE01, .slice uE02 _ uE03]] (by rfl) rfl rfl (by (try simp only [List.map_toArray, List.map_cons, List.map_nil]); first | done | rfl) ?_
    refine (t_Mul (HR7.out.below HBu2.out) HX0u2.out HL.out (bdN (x := p.1) (by have := HP.out; omega)) (by omega)).mono ?_
    rintro e u3 ⟨uE10, uE11, uE12, uE13, rfl, hx, hb⟩
    refine ⟨_, rfl, ?_⟩
    have HBu3 : Aside0 (Below w7.heap.size w7 u3) := ⟨zab HBu2.out hb⟩
    have hzu3 := hb.size
    have HYu3 := Aside0.mk hx
    have HBXu3 := Aside0.mk ((hb.block _ (zaw HBXu2.out)).trans HBXu2.out)
    clear hx hb
    refine hK.out _ _ (HSK.out _ HBu3.out) (fun hHeld => ?_)
    clear hK K
    refine norm_ (a' := ?_) ?_ ?_
    rotate_left
    ·
     show Act.put _ (some 11) _ = _
     simp only [Act.put, List.setIfInBounds_toArray, List.set_cons_zero, List.set_cons_succ, i64_w, i32_w]
     rfl
    exact norm_ (by first | (simp only [putAll, Act.put, List.setIfInBounds_toArray, List.set_cons_zero, List.set_cons_succ]; done) | (simp only [putAll, Act.put, List.setIfInBounds_toArray, List.set_cons_zero, List.set_cons_succ]; rfl)) (hJ (_, _, gb) u3 ⟨hHeld, ⟨uE10, uE11, uE12, uE13, rfl, (HYu3.out.mono (fun k hk => by have h : u2.heap.size ≤ k := hk; have := (HBu2.out).size; show w7.heap.size ≤ k ∧ k ≠ gb; omega))⟩, HBXu3.out, hge, HBu3.out⟩)
  ·
   skip
   refine box_step ?hg (N := 5) ?hd (cs := #[.slice none 0 0, .slice none 0 0]) (t := 29) ?hr ?_; (case hd => rfl); (case hg => rfl); (case hr => first | (go_simp; done) | (go_simp; rfl))
   intro gb hgb u1 hbox hb
   have HBu1 : Aside0 (Below w7.heap.size w7 u1) := ⟨zab HBw70.out hb⟩
   have HBXu1 := Aside0.mk hbox
   have hgl := zaw hbox
   have hge : w7.heap.size ≤ gb := by rw [hgb]; exact (HBw70.out).size
   have hzu1 := hb.size
   clear hbox hb
   refine hK.out _ _ (HSK.out _ HBu1.out) (fun hHeld => ?_)
   clear hK K
   refine norm_ (a' := ?_) ?_ ?_
   rotate_left
   ·
    show Act.put _ (some 5) _ = _
    simp only [Act.put, List.setIfInBounds_toArray, List.set_cons_zero, List.set_cons_succ, i64_w, i32_w]
    rfl
   refine one_ (i := 3) (N := some 10) #[true, true, true, true, false, true, false] rfl rfl (zb6 HT_.out (by kernel_rfl)) (by decide) (fun K hK => ?_)
   refine goes_ Tryz.func18 (by kernel_rfl) rfl #[.int .i64 (p.1 : Int)] (by rfl) rfl rfl (by (try simp only [List.map_toArray, List.map_cons, List.map_nil]); first | done | rfl) ?_
   refine (t_IntN p.1 (by have := HP.out; omega) _).mono ?_
   rintro e u2 ⟨uE00, uE01, uE02, uE03, rfl, hx, hb⟩
   refine ⟨_, rfl, ?_⟩
   have HBu2 : Aside0 (Below w7.heap.size w7 u2) := ⟨zab HBu1.out hb⟩
   have hzu2 := hb.size
   have HX0u2 := Aside0.mk hx.rt
   have HBXu2 := Aside0.mk ((hb.block _ (zaw HBXu1.out)).trans HBXu1.out)
   clear hx hb
   refine hK.out _ _ (HSK.out _ HBu2.out) (fun hHeld => ?_)
   clear hK K
   refine norm_ (a' := ?_) ?_ ?_
   rotate_left
   ·
    show Act.put _ (some 10) _ = _
    simp only [Act.put, List.setIfInBounds_toArray, List.set_cons_zero, List.set_cons_succ, i64_w, i32_w]
    rfl
   refine one_ (i := 4) (N := some 11) #[true, true, true, true, true, true, false] rfl rfl (zb6 HT_.out (by kernel_rfl)) (by decide) (fun K hK => ?_)
   refine goes_ Tryz.func19 (by kernel_rfl) rfl #[.agg #[.slice A1_0 (rN L).length c1_0, .slice A1_1 (rD L).length c1_1], .agg #[.slice uE00 _ uE01, .slice uE02 _ uE03]] (by rfl) rfl rfl (by (try simp only [List.map_toArray, List.map_cons, List.map_nil]); first | done | rfl) ?_
   refine (t_Mul (HR7.out.below HBu2.out) HX0u2.out HL.out (bdN (x := p.1) (by have := HP.out; omega)) (by omega)).mono ?_
   rintro e u3 ⟨uE10, uE11, uE12, uE13, rfl, hx, hb⟩
   refine ⟨_, rfl, ?_⟩
   have HBu3 : Aside0 (Below w7.heap.size w7 u3) := ⟨zab HBu2.out hb⟩
   have hzu3 := hb.size
   have HYu3 := Aside0.mk hx
   have HBXu3 := Aside0.mk ((hb.block _ (zaw HBXu2.out)).trans HBXu2.out)
   clear hx hb
   refine hK.out _ _ (HSK.out _ HBu3.out) (fun hHeld => ?_)
   clear hK K
   refine norm_ (a' := ?_) ?_ ?_
   rotate_left
   ·
    show Act.put _ (some 11) _ = _
    simp only [Act.put, List.setIfInBounds_toArray, List.set_cons_zero, List.set_cons_succ, i64_w, i32_w]
    rfl
   exact norm_ (by first | (simp only [putAll, Act.put, List.setIfInBounds_toArray, List.set_cons_zero, List.set_cons_succ]; done) | (simp only [putAll, Act.put, List.setIfInBounds_toArray, List.set_cons_zero, List.set_cons_succ]; rfl)) (hJ (_, _, gb) u3 ⟨hHeld, ⟨uE10, uE11, uE12, uE13, rfl, (HYu3.out.mono (fun k hk => by have h : u2.heap.size ≤ k := hk; have := (HBu2.out).size; show w7.heap.size ≤ k ∧ k ≠ gb; omega))⟩, HBXu3.out, hge, HBu3.out⟩)
 rintro ⟨v40_, y_, g5⟩ w8 ⟨hHeld, ⟨m0, m1, m2, m3, hy, hRV⟩, hbox, hge, hb8⟩
 dsimp only at hy hbox hge hRV
 subst hy
 have q0 : w8.cell? ⟨g5, 0, none⟩ = some (.slice none 0 0) := (zac hbox 0).trans rfl
 have q1 : w8.cell? ⟨g5, 1, none⟩ = some (.slice none 0 0) := (zac hbox 1).trans rfl
 have q2 := zaj hbox 0
 have q3 := zaj hbox 1
 have HBF := Aside0.mk ((hb8.setCell (p := ⟨g5, 0, none⟩) hge (.slice m0 (rN (L * (p.1 : Rat))).length m1)).setCell (p := ⟨g5, 1, none⟩) hge (.slice m2 (rD (L * (p.1 : Rat))).length m3))
 have HRF := Aside0.mk (((hRV.far (p := ⟨g5, 0, none⟩) (fun k hk => hk.2) (.slice m0 (rN (L * (p.1 : Rat))).length m1)).far (p := ⟨g5, 1, none⟩) (fun k hk => hk.2) (.slice m2 (rD (L * (p.1 : Rat))).length m3)))
 have HXF := Aside0.mk (zbb (zbb hbox 0 (.slice m0 (rN (L * (p.1 : Rat))).length m1) rfl) 1 (.slice m2 (rD (L * (p.1 : Rat))).length m3) rfl)
 have HGEg5 := Aside0.mk hge
 clear hRV hbox hb8
 refine norm_ (a' := ?_) ?_ ?_
 rotate_left
 ·
  simp only [putAll, Act.put, List.setIfInBounds_toArray, List.set_cons_zero, List.set_cons_succ]
  rfl
 refine one_ (i := 6) (N := none) #[true, true, true, true, true, true, true] rfl rfl (zb6 HT_.out (by kernel_rfl)) (by decide) (fun K hK => ?_)
 refine skip_ (w1 := ?_) (by rfl) rfl ?_ ?_
 rotate_left
 ·
  go_simp
  rfl
 refine hK.out _ _ (HSK.out _ HBF.out) (fun hHeld => ?_)
 clear hK K q0 q1 q2 q3
 generalize (w8.setCell ⟨g5, 0, none⟩ (.slice m0 (rN (L * (p.1 : Rat))).length m1)).setCell ⟨g5, 1, none⟩ (.slice m2 (rD (L * (p.1 : Rat))).length m3) = w9 at HBF HRF HXF hHeld ⊢
 have HBw9 := HBF
 have HRw9 := HRF
 have HXw9 := HXF
 clear HBF HRF HXF hge
 refine done_ (zc7 HT_.out (by kernel_rfl)) ?_
 have HM9 := Aside0.mk HRw9.out.rt
 have HXg9 := HXw9
 have qc : w9.cell? ⟨w.heap.size, 1, none⟩ = some (.int .i64 (p.2 : Int)) := (zac ((HBw9.out.block _ (zaw HB2.out)).trans HB2.out) 1).trans rfl
 go_wp2_with fail
 clear qc
 have HTI := Aside0.mk (t_IntN p.2 (by have := HP.out; omega) w9)
 refine HTI.out.mono ?_
 rintro e w10 ⟨K0, d0, K1, d1, rfl, hK, hb10⟩
 have hB710 := zab HBw9.out hb10
 have hm10 := (hb10.block _ (zaw HXg9.out)).trans HXg9.out
 have HB411 := Aside0.mk (za7 hB710 (.cells #[.slice K0 (rN (p.2 : Rat)).length d0, .slice K1 (rD (p.2 : Rat)).length d1] 29))
 have HMo := Aside0.mk (hK.old (za7 (Below.refl w10.heap.size w10) (.cells #[.slice K0 (rN (p.2 : Rat)).length d0, .slice K1 (rD (p.2 : Rat)).length d1] 29)))
 have HXm := Aside0.mk (zdl w10 (.cells #[.slice K0 (rN (p.2 : Rat)).length d0, .slice K1 (rD (p.2 : Rat)).length d1] 29))
 have HXg := Aside0.mk (zai hm10 (.cells #[.slice K0 (rN (p.2 : Rat)).length d0, .slice K1 (rD (p.2 : Rat)).length d1] 29))
 have HG9 := Aside0.mk ((HRw9.out.old hb10).old (za7 (Below.refl w10.heap.size w10) (.cells #[.slice K0 (rN (p.2 : Rat)).length d0, .slice K1 (rD (p.2 : Rat)).length d1] 29)))
 have hs10 := hb10.size
 have HS10 := Aside0.mk hs10
 clear hK hb10 hB710 hm10 hs10
 go_upto_region 3 with fail
 have HS9 := Aside0.mk HBw9.out.size
 generalize w10.alloc (.cells #[.slice K0 (rN (p.2 : Rat)).length d0, .slice K1 (rD (p.2 : Rat)).length d1] 29) = w11 at HB411 HMo HXm HXg HG9 ⊢
 generalize w10.heap.size = g6 at HXm HMo HG9 HS10 ⊢
 have q0 : w11.cell? ⟨g5, 0, none⟩ = some (.slice m0 (rN (L * (p.1 : Rat))).length m1) := (zac HXg.out 0).trans rfl
 have q1 : w11.cell? ⟨g5, 1, none⟩ = some (.slice m2 (rD (L * (p.1 : Rat))).length m3) := (zac HXg.out 1).trans rfl
 have q2 : w11.cell? ⟨g6, 0, none⟩ = some (.slice K0 (rN (p.2 : Rat)).length d0) := (zac HXm.out 0).trans rfl
 have q3 : w11.cell? ⟨g6, 1, none⟩ = some (.slice K1 (rD (p.2 : Rat)).length d1) := (zac HXm.out 1).trans rfl
 go_wp2_with fail
 refine (t_Cmp HG9.out.rt HMo.out.rt (HL.out.mul (bdN (x := p.1) (by have := HP.out; omega))) (bdN (x := p.2) (by have := HP.out; omega)) (by omega)).mono ?_
 clear q0 q1 q2 q3
 rintro e w12 ⟨rfl, hb12⟩
 have HB712 := Aside0.mk (zab HB411.out hb12)
 have HX12 := Aside0.mk ((HB712.out.block _ (zaw HB4.out)).trans HB4.out)
 have HXg12 := Aside0.mk ((hb12.block _ (zaw HXg.out)).trans HXg.out)
 have HXm12 := Aside0.mk ((hb12.block _ (zaw HXm.out)).trans HXm.out)
 have HGr := Aside0.mk ((HG9.out.old hb12).mono (Q := fun k => w.heap.size ≤ k ∧ k ≠ w.heap.size + 2) (fun k hk => by have := hk.1.1.1.1; have := HS.out; omega))
 have HMr := Aside0.mk ((HMo.out.old hb12).mono (Q := fun k => w.heap.size ≤ k ∧ k ≠ w.heap.size + 2) (fun k hk => by have h0 : w9.heap.size ≤ k := hk.1.1; have := HS.out; have := HS9.out; omega))
 clear hb12
 have p4 : w12.cell? ⟨w.heap.size + 2, 0, none⟩ = some (.slice none 0 0) := (zac HX12.out 0).trans rfl
 have p5 : w12.cell? ⟨w.heap.size + 2, 1, none⟩ = some (.slice none 0 0) := (zac HX12.out 1).trans rfl
 have p6 := zaj HX12.out 0
 have p7 := zaj HX12.out 1
 generalize hcq : cmpR (L * (p.1 : Rat)) (p.2 : Rat) = cq
 have hBw := zab HB.out HB712.out
 by_cases hle : L * (p.1 : Rat) ≤ (p.2 : Rat)
 ·
  have d6 : decide (cq > 0) = false := decide_eq_false (by rw [← hcq]; exact cmpR_le hle)
  have hg : giv L p = L * (p.1 : Rat) := by unfold giv; rw [if_pos hle]
  have HGv := Aside0.mk hg
  have q0 : w12.cell? ⟨g5, 0, none⟩ = some (.slice m0 (rN (L * (p.1 : Rat))).length m1) := (zac HXg12.out 0).trans rfl
  have q1 : w12.cell? ⟨g5, 1, none⟩ = some (.slice m2 (rD (L * (p.1 : Rat))).length m3) := (zac HXg12.out 1).trans rfl
  have HSF := Aside0.mk ((HGr.out.far (p := ⟨w.heap.size + 2, 0, none⟩) (fun k hk => hk.2) (.slice m0 (rN (L * (p.1 : Rat))).length m1)).far (p := ⟨w.heap.size + 2, 1, none⟩) (fun k hk => hk.2) (.slice m2 (rD (L * (p.1 : Rat))).length m3))
  have HBF := Aside0.mk (zbb (zbb HX12.out 0 (.slice m0 (rN (L * (p.1 : Rat))).length m1) rfl) 1 (.slice m2 (rD (L * (p.1 : Rat))).length m3) rfl)
  have HKF := Aside0.mk ((hBw.setCell (p := ⟨w.heap.size + 2, 0, none⟩) (Nat.le_add_right _ _) (.slice m0 (rN (L * (p.1 : Rat))).length m1)).setCell (p := ⟨w.heap.size + 2, 1, none⟩) (Nat.le_add_right _ _) (.slice m2 (rD (L * (p.1 : Rat))).length m3))
  clear hcq hle hg hBw
  go_wp2_with fail
  all_goals first | (exfalso; first | (have h_ := of_decide_eq_true d6; omega) | (have h_ := of_decide_eq_false d6; omega)) | skip
  refine bodyPost_ret (results_cell_row rfl _ _ (w.heap.size + 2) 29 _ (0, 0) _ rfl HBF.out Tryz.underlying29 rfl (by kernel_rfl)) rfl ?_
  rw [HGv.out]
  exact ⟨_, _, rfl, (HSF.out.mono (Q := fun k => w.heap.size ≤ k) (fun k hk => hk.1)).1, (HSF.out.mono (Q := fun k => w.heap.size ≤ k) (fun k hk => hk.1)).2, HKF.out⟩
 ·
  have d6 : decide (cq > 0) = true := decide_eq_true (by rw [← hcq]; exact cmpR_pos.2 (Rat.not_le.1 hle))
  have hg : giv L p = (p.2 : Rat) := by unfold giv; rw [if_neg hle]
  have HGv := Aside0.mk hg
  have q0 : w12.cell? ⟨g6, 0, none⟩ = some (.slice K0 (rN (p.2 : Rat)).length d0) := (zac HXm12.out 0).trans rfl
  have q1 : w12.cell? ⟨g6, 1, none⟩ = some (.slice K1 (rD (p.2 : Rat)).length d1) := (zac HXm12.out 1).trans rfl
  have HSF := Aside0.mk ((HMr.out.far (p := ⟨w.heap.size + 2, 0, none⟩) (fun k hk => hk.2) (.slice K0 (rN (p.2 : Rat)).length d0)).far (p := ⟨w.heap.size + 2, 1, none⟩) (fun k hk => hk.2) (.slice K1 (rD (p.2 : Rat)).length d1))
  have HBF := Aside0.mk (zbb (zbb HX12.out 0 (.slice K0 (rN (p.2 : Rat)).length d0) rfl) 1 (.slice K1 (rD (p.2 : Rat)).length d1) rfl)
  have HKF := Aside0.mk ((hBw.setCell (p := ⟨w.heap.size + 2, 0, none⟩) (Nat.le_add_right _ _) (.slice K0 (rN (p.2 : Rat)).length d0)).setCell (p := ⟨w.heap.size + 2, 1, none⟩) (Nat.le_add_right _ _) (.slice K1 (rD (p.2 : Rat)).length d1))
  clear hcq hle hg hBw
  go_wp2_with fail
  all_goals first | (exfalso; first | (have h_ := of_decide_eq_true d6; omega) | (have h_ := of_decide_eq_false d6; omega)) | skip
  refine bodyPost_ret (results_cell_row rfl _ _ (w.heap.size + 2) 29 _ (0, 0) _ rfl HBF.out Tryz.underlying29 rfl (by kernel_rfl)) rfl ?_
  rw [HGv.out]
  exact ⟨_, _, rfl, (HSF.out.mono (Q := fun k => w.heap.size ≤ k) (fun k hk => hk.1)).1, (HSF.out.mono (Q := fun k => w.heap.size ≤ k) (fun k hk => hk.1)).2, HKF.out⟩
end Go.Proofs.YthiicmanfpmipaaGreatDoor.P
end
section
namespace Go.Proofs.YthiicmanfpmipaaGreatDoor.P
open Go.RowKit Go.Proofs.YthiicmanfpmipaaGreatDoorW.PrintWords Go.Proofs.YthiicmanfpmipaaGreatDoorW.PrintLast Go.Proofs.YthiicmanfpmipaaGreatDoorW.PrintMore
attribute [local go_sem] zci zcj zcs zcr zb9 zca zcg zch
def zc4.f (k : Nat) (a0_0 a0_1 : Int) (l1_0 l1_1 : List Int) : Option (List Int × List Int) := givF a0_0 a0_1 l1_0 l1_1
theorem zc4.calls (k : Nat) (a0_0 a0_1 : Int) (A1_0 : Option Addr) (c1_0 : Nat) (l1_0 : List Int) (A1_1 : Option Addr) (c1_1 : Nat) (l1_1 : List Int) (r1 r2 : List Int) (w : World) (hr1_0 : Kd.C (Kd.int .u64) w A1_0 l1_0.length l1_0) (hc1_0 : l1_0.length ≤ c1_0) (hr1_1 : Kd.C (Kd.int .u64) w A1_1 l1_1.length l1_1) (hc1_1 : l1_1.length ≤ c1_1) (h : zc4.f k a0_0 a0_1 l1_0 l1_1 = some (r1, r2)) :
  Calls Tryz.prog 40 #[.agg #[.int .i64 a0_0, .int .i64 a0_1], .agg #[.slice A1_0 l1_0.length c1_0, .slice A1_1 l1_1.length c1_1]] w fun e w' => ∃ v0_ v1_ : Value, e = .returned (.agg #[v0_, v1_]) ∧ Kd.V (Kd.int .u64) 82 w' w.heap.size (fun k_ => (w.heap.size ≤ k_)) v0_ r1 ∧ Kd.V (Kd.int .u64) 82 w' w.heap.size (fun k_ => (w.heap.size ≤ k_)) v1_ r2 ∧ Below w.heap.size w w' :=
 given_ok a0_0 a0_1 A1_0 c1_0 l1_0 A1_1 c1_1 l1_1 r1 r2 w hr1_0 hc1_0 hr1_1 hc1_1 h
theorem qIntN (x : Nat) (h : x < 9223372036854775808) : Ev (fun k => zc3.f k (x : Int)) (rN (x : Rat), rD (x : Rat)) := by
 have h1 := qInt (x : Int) (by omega)
 rw [Int.toNat_natCast] at h1
 exact h1
theorem gGiven {L : Rat} {m : Nat} (hL : Bd L m) (hm : m ≤ 3000) (p : Nat × Nat) (hp1 : p.1 < 1000000) (hp2 : p.2 < 1000000) : Ev (fun k => zc4.f k (p.1 : Int) (p.2 : Int) (rN L) (rD L)) (rN (giv L p), rD (giv L p)) := Ev.of fun _ => givF_rt (hL.le hm) p hp1 hp2
def IntsC (w : World) (A : Option Addr) (l : List Int) : Prop := ∀ i, i < l.length → ∃ ad, A = some ad ∧ w.cell? (ad.add i) = some (.int .i64 (l.getD i 0))
theorem IntsC.keep {w w' : World} {A : Option Addr} {l : List Int} (h : IntsC w A l) (hb : Below w.heap.size w w') : IntsC w' A l := fun i hi => by
 obtain ⟨ad, e, hc⟩ := h i hi
 exact ⟨ad, e, (hb.cell (block_lt_of_cell hc)).trans hc⟩
def oddW (c : Int) : Bool := decide (c < 1) || decide (c > 10000)
def outC (c : Int) : Bool := decide (c < 0) || decide (c > 64)
theorem oddW_ok (c : Int) (w : World) : Calls Tryz.prog 70 #[.int .i64 c] w fun e w' => e = .returned (.bool (oddW c)) ∧ w' = w := by
 have he : oddW c = (decide (c < 1) || decide (c > 10000)) := rfl
 have HE := Aside0.mk he
 clear he
 go_enter Tryz.func70, Tryz.ntmps70
 cases d1 : decide (c < 1)
 ·
  go_wp2_with fail
  go_ret
  exact ⟨by rw [HE.out, d1]; rfl, rfl⟩
 ·
  go_wp2_with fail
  go_ret
  exact ⟨by rw [HE.out, d1]; rfl, rfl⟩
theorem outC_ok (c : Int) (w : World) : Calls Tryz.prog 71 #[.int .i64 c] w fun e w' => e = .returned (.bool (outC c)) ∧ w' = w := by
 have he : outC c = (decide (c < 0) || decide (c > 64)) := rfl
 have HE := Aside0.mk he
 clear he
 go_enter Tryz.func71, Tryz.ntmps71
 cases d1 : decide (c < 0)
 ·
  go_wp2_with fail
  go_ret
  exact ⟨by rw [HE.out, d1]; rfl, rfl⟩
 ·
  go_wp2_with fail
  go_ret
  exact ⟨by rw [HE.out, d1]; rfl, rfl⟩
theorem index_ok (g : Nat) (hen : ∀ (args : Array Value) (W : World), (callFunc g args).run Tryz.prog W = .ok (.enter g args) W) (p : Int → Bool) (hp : ∀ c W, Calls Tryz.prog g #[.int .i64 c] W fun e W' => e = .returned (.bool (p c)) ∧ W' = W) (A : Option Addr) (cap : Nat) (l : List Int) (hl : l.length ≤ 1000) (w : World) (hA : IntsC w A l) :
  Calls Tryz.prog 122 #[.slice A l.length cap, .func (.func g) #[] #[]] w fun e w' => ∃ r, e = .returned (.int .i64 r) ∧ (decide (r ≥ 0) = l.any p) ∧ w' = w := by
 have HP := Aside0.mk hp
 have HA := Aside0.mk hA
 have HL := Aside0.mk hl
 clear hp hA hl
 generalize hln : l.length = len at HL ⊢
 have HLN := Aside0.mk hln
 clear hln
 go_enter Tryz.func122, Tryz.ntmps122
 go_wp2_with fail
 go_loopg [5, 8] len (fun gk v5 v8 w' => ∃ i : Nat, v8 = .int .i64 (i : Int) ∧ Aside0 (i + gk = len) ∧ Aside0 (l.any p = (l.drop i).any p) ∧ w' = w)
 case atStart => exact ⟨0, rfl, ⟨by omega⟩, ⟨by rw [List.drop_zero]⟩, rfl⟩
 case round =>
  obtain ⟨i, rfl, HK, HQ, rfl⟩ := hrel
  cases gk with
  | zero =>
   have hi : i = len := by have := HK.out; omega
   subst hi
   have d1 : decide ((i : Int) < (i : Int)) = false := decide_eq_false (by omega)
   have HE : Aside0 (l.any p = false) := ⟨by rw [HQ.out, List.drop_of_length_le (by have := HLN.out; omega)]; rfl⟩
   go_wp2_with fail
   go_ret
   exact ⟨_, rfl, by rw [HE.out]; rfl, rfl⟩
  | succ g1 =>
   have hil : i < len := by have := HK.out; omega
   have hi : i < l.length := by have := HLN.out; omega
   have d1 : decide ((i : Int) < (len : Int)) = true := decide_eq_true (by omega)
   obtain ⟨ad, rfl, c1⟩ := HA.out i hi
   have HX := Aside0.mk HQ.out
   rw [List.drop_eq_getElem_cons hi, List.any_cons] at HX
   rw [show l.getD i 0 = l[i] by simp [hi]] at c1
   generalize l[i] = c at c1 HX
   go_wp2_with fail
   refine (HP.out c wr).mono ?_
   rintro e w2 ⟨rfl, rfl⟩
   cases hb : p c
   ·
    rw [hb, Bool.false_or] at HX
    go_wp2_with fail
    go_roundg g1
    case rel => exact ⟨i + 1, by rw [show wrap64 ((i : Int) + 1) = ((i + 1 : Nat) : Int) by (have := HL.out; unfold wrap64; omega)], ⟨by have := HK.out; omega⟩, HX, rfl⟩
    case measure => omega
   ·
    rw [hb, Bool.true_or] at HX
    go_wp2_with fail
    go_ret
    exact ⟨_, rfl, by rw [HX.out]; exact decide_eq_true (by omega), rfl⟩
theorem contains_ok (g : Nat) (hen : ∀ (args : Array Value) (W : World), (callFunc g args).run Tryz.prog W = .ok (.enter g args) W) (p : Int → Bool) (hp : ∀ c W, Calls Tryz.prog g #[.int .i64 c] W fun e W' => e = .returned (.bool (p c)) ∧ W' = W) (A : Option Addr) (cap : Nat) (l : List Int) (hl : l.length ≤ 1000) (w : World) (hA : IntsC w A l) :
  Calls Tryz.prog 73 #[.slice A l.length cap, .func (.func g) #[] #[]] w fun e w' => e = .returned (.bool (l.any p)) ∧ w' = w := by
 have HI := Aside0.mk (index_ok g hen p hp A cap l hl w hA)
 clear hp hA hl
 go_enter Tryz.func73, Tryz.ntmps73
 go_wp2_with fail
 refine HI.out.mono ?_
 rintro e w2 ⟨r, rfl, hr, rfl⟩
 have HR := Aside0.mk hr
 clear hr
 go_wp2_with fail
 go_ret
 exact ⟨congrArg (fun b => Ending.returned (Value.bool b)) HR.out, rfl⟩
theorem odd_enters (args : Array Value) (W : World) : (callFunc 70 args).run Tryz.prog W = .ok (.enter 70 args) W := by
 simp [callFunc]
 rfl
def kids (ws cs : List Int) : List (Nat × Nat) := (ws.zip cs).map fun p => (p.1.toNat, p.2.toNat)
def fillE (x : Rat) (ws cs : List Int) : Int :=
 if ws.length ≠ cs.length then 17 else if 32 < ws.length then 6 else if ws.any oddW then 13 else if cs.any outC then 14 else if csum (kids ws cs) < x then 14 else 0
def chOf (p : Nat × Nat) : S90 := ⟨(p.1 : Int), (p.2 : Int)⟩
def ofCh (c : S90) : Nat × Nat := (c.f0.toNat, c.f1.toNat)
def chV (x : Rat) (ws cs : List Int) : List S90 × Int := if fillE x ws cs = 0 then ((kids ws cs).map chOf, 0) else ([], fillE x ws cs)
def chF (n d ws cs : List Int) : Option (List S90 × Int) := if bdx n d = true ∧ ws.length ≤ 1000 ∧ cs.length ≤ 1000 then some (chV (ratV n d) ws cs) else none
theorem chF_rt {x : Rat} (h : Bd x 3000) {ws cs : List Int} (hw : ws.length ≤ 1000) (hc : cs.length ≤ 1000) : chF (rN x) (rD x) ws cs = some (chV x ws cs) := by
 unfold chF
 rw [if_pos ⟨bdx_rt h, hw, hc⟩, ratV_rt h.1]
theorem chF_of {n d ws cs : List Int} {r : List S90 × Int} (h : chF n d ws cs = some r) : ∃ x, Bd x 3000 ∧ n = rN x ∧ d = rD x ∧ ws.length ≤ 1000 ∧ cs.length ≤ 1000 ∧ chV x ws cs = r := by
 unfold chF at h
 split at h
 ·
  rename_i hc
  obtain ⟨h1, h2, h3⟩ := bdx_of hc.1
  exact ⟨ratV n d, h1, h2, h3, hc.2.1, hc.2.2, Option.some.inj h⟩
 ·
  cases h
def okCh (c : S90) : Bool := decide (1 ≤ c.f0) && decide (c.f0 ≤ 10000) && decide (0 ≤ c.f1) && decide (c.f1 ≤ 64)
def lvF (n d : List Int) (l : List S90) : Option (List Int × List Int) :=
 if bdx n d = true ∧ l.length ≤ 32 ∧ l.all okCh = true ∧ ratV n d ≤ csum (l.map ofCh) then some (rN (levR (l.map ofCh) (ratV n d)), rD (levR (l.map ofCh) (ratV n d))) else none
def GoodK (l : List (Nat × Nat)) : Prop := l.length ≤ 32 ∧ ∀ p ∈ l, 1 ≤ p.1 ∧ p.1 ≤ 10000 ∧ p.2 ≤ 64
theorem fillE_good {x : Rat} {ws cs : List Int} (h : fillE x ws cs = 0) : ws.length = cs.length ∧ GoodK (kids ws cs) ∧ x ≤ csum (kids ws cs) ∧ ws = (kids ws cs).map (fun p => (p.1 : Int)) ∧ cs = (kids ws cs).map (fun p => (p.2 : Int)) := by
 unfold fillE at h
 split at h
 ·
  cases h
 rename_i h1
 split at h
 ·
  cases h
 rename_i h2
 split at h
 ·
  cases h
 rename_i h3
 split at h
 ·
  cases h
 rename_i h4
 split at h
 ·
  cases h
 rename_i h5
 have e1 : ws.length = cs.length := Decidable.not_not.1 h1
 have hw : ∀ c ∈ ws, 1 ≤ c ∧ c ≤ 10000 := fun c hc => by
  have h6 : oddW c ≠ true := fun h => h3 (List.any_eq_true.2 ⟨c, hc, h⟩)
  unfold oddW at h6
  by_cases a : c < 1
  ·
   exact absurd (by rw [decide_eq_true a, Bool.true_or]) h6
  ·
   by_cases b : c > 10000
   ·
    exact absurd (by rw [decide_eq_true b, Bool.or_true]) h6
   ·
    omega
 have hcs : ∀ c ∈ cs, 0 ≤ c ∧ c ≤ 64 := fun c hc => by
  have h6 : outC c ≠ true := fun h => h4 (List.any_eq_true.2 ⟨c, hc, h⟩)
  unfold outC at h6
  by_cases a : c < 0
  ·
   exact absurd (by rw [decide_eq_true a, Bool.true_or]) h6
  ·
   by_cases b : c > 64
   ·
    exact absurd (by rw [decide_eq_true b, Bool.or_true]) h6
   ·
    omega
 have hlen : (kids ws cs).length = ws.length := by
  unfold kids
  rw [List.length_map, List.length_zip]
  omega
 refine ⟨e1, ⟨by omega, fun p hp => ?_⟩, Rat.not_lt.1 h5, ?_, ?_⟩
 ·
  unfold kids at hp
  obtain ⟨q, hq, rfl⟩ := List.mem_map.1 hp
  have h7 := hw _ (List.of_mem_zip hq).1
  have h8 := hcs _ (List.of_mem_zip hq).2
  refine ⟨?_, ?_, ?_⟩
  ·
   show 1 ≤ q.1.toNat
   omega
  ·
   show q.1.toNat ≤ 10000
   omega
  ·
   show q.2.toNat ≤ 64
   omega
 ·
  refine List.ext_getElem (by rw [List.length_map, hlen]) fun i ha hb => ?_
  have := hw ws[i] (List.getElem_mem ha)
  simp [kids]
  omega
 ·
  refine List.ext_getElem (by rw [List.length_map, hlen, e1]) fun i ha hb => ?_
  have := hcs cs[i] (List.getElem_mem ha)
  simp [kids]
  omega
theorem okCh_chOf {p : Nat × Nat} (h : 1 ≤ p.1 ∧ p.1 ≤ 10000 ∧ p.2 ≤ 64) : okCh (chOf p) = true := by
 unfold okCh chOf
 simp only [Bool.and_eq_true, decide_eq_true_eq]
 omega
theorem lvF_rt {x : Rat} (h : Bd x 3000) {l : List (Nat × Nat)} (hl : GoodK l) (hx : x ≤ csum l) : lvF (rN x) (rD x) (l.map chOf) = some (rN (levR l x), rD (levR l x)) := by
 have e : (l.map chOf).map ofCh = l := by
  rw [List.map_map]
  exact List.map_id l
 unfold lvF
 rw [e, ratV_rt h.1, if_pos ⟨bdx_rt h, by rw [List.length_map]; exact hl.1, List.all_eq_true.2 fun c hc => by obtain ⟨p, hp, rfl⟩ := List.mem_map.1 hc; exact okCh_chOf (hl.2 p hp), hx⟩]
theorem lvF_of {n d : List Int} {l : List S90} {r : List Int × List Int} (h : lvF n d l = some r) : ∃ (x : Rat) (m : List (Nat × Nat)), Bd x 3000 ∧ n = rN x ∧ d = rD x ∧ l = m.map chOf ∧ GoodK m ∧ x ≤ csum m ∧ r = (rN (levR m x), rD (levR m x)) := by
 unfold lvF at h
 split at h
 ·
  rename_i hc
  obtain ⟨h1, h2, h3⟩ := bdx_of hc.1
  have hal := List.all_eq_true.1 hc.2.2.1
  have key : ∀ c ∈ l, (1 ≤ c.f0 ∧ c.f0 ≤ 10000) ∧ 0 ≤ c.f1 ∧ c.f1 ≤ 64 := fun c hm => by
   have := hal c hm
   unfold okCh at this
   simp only [Bool.and_eq_true, decide_eq_true_eq] at this
   omega
  refine ⟨ratV n d, l.map ofCh, h1, h2, h3, ?_, ⟨by rw [List.length_map]; exact hc.2.1, fun p hp => ?_⟩, hc.2.2.2, (Option.some.inj h).symm⟩
  ·
   have e : l.map (chOf ∘ ofCh) = l.map id := List.map_congr_left fun c hc => by
    have := key c hc
    show (⟨((c.f0.toNat : Nat) : Int), ((c.f1.toNat : Nat) : Int)⟩ : S90) = c
    rw [Int.toNat_of_nonneg (by omega), Int.toNat_of_nonneg (by omega)]
   rw [List.map_map, e, List.map_id]
  ·
   obtain ⟨c, hm, rfl⟩ := List.mem_map.1 hp
   have := key c hm
   unfold ofCh
   dsimp only
   omega
 ·
  cases h
end Go.Proofs.YthiicmanfpmipaaGreatDoor.P
end
section
namespace Go.Proofs.YthiicmanfpmipaaGreatDoor.P
open Go.RowKit Go.Proofs.YthiicmanfpmipaaGreatDoorW.PrintWords Go.Proofs.YthiicmanfpmipaaGreatDoorW.PrintLast Go.Proofs.YthiicmanfpmipaaGreatDoorW.PrintMore
attribute [local go_sem] zci zcj zcs zcr zb9 zca zcg zch
section
open Go.Sort Go.Lib
abbrev El := Fin 10000 × Fin 65
def toA (p : Nat × Nat) : El := (Fin.ofNat 10000 (p.1 - 1), Fin.ofNat 65 p.2)
def bk (x : El) : Nat × Nat := (x.1.val + 1, x.2.val)
theorem bk_toA {p : Nat × Nat} (h : 1 ≤ p.1 ∧ p.1 ≤ 10000 ∧ p.2 ≤ 64) : bk (toA p) = p := by
 obtain ⟨a, b⟩ := p
 show (((a - 1) % 10000) + 1, b % 65) = (a, b)
 dsimp only at h
 rw [Nat.mod_eq_of_lt (by omega), Nat.mod_eq_of_lt (by omega), show a - 1 + 1 = a by omega]
theorem bk_good (x : El) : 1 ≤ (bk x).1 ∧ (bk x).1 ≤ 10000 ∧ (bk x).2 ≤ 64 := by
 have := x.1.isLt
 have := x.2.isLt
 unfold bk
 dsimp only
 omega
def cfE (x y : El) : Int := ((bk x).2 : Int) * ((bk y).1 : Int) - ((bk y).2 : Int) * ((bk x).1 : Int)
def encE (x : El) : List Value := [.int .i64 ((bk x).1 : Int), .int .i64 ((bk x).2 : Int)]
theorem lt_E (x y : El) : ltOf cfE x y = decide ((bk x).2 * (bk y).1 < (bk y).2 * (bk x).1) := by
 unfold ltOf cfE
 refine decide_eq_decide.2 ?_
 rw [← Int.natCast_mul, ← Int.natCast_mul]
 omega
theorem bk_trans {a b c : El} (h1 : (bk a).2 * (bk b).1 ≤ (bk b).2 * (bk a).1) (h2 : (bk b).2 * (bk c).1 ≤ (bk c).2 * (bk b).1) : (bk a).2 * (bk c).1 ≤ (bk c).2 * (bk a).1 := early_trans (a := (a.1.val, a.2.val)) (b := (b.1.val, b.2.val)) (c := (c.1.val, c.2.val)) h1 h2
theorem swoE : SWO (ltOf cfE) where
 irrefl x := by rw [lt_E]; simp
 trans x y z h1 h2 := by
  rw [lt_E, decide_eq_true_eq] at *
  refine Nat.lt_of_not_le fun h => ?_
  have := bk_trans h (Nat.le_of_lt h1)
  omega
 ntrans x y z h1 h2 := by
  rw [lt_E, decide_eq_false_iff_not] at *
  have := bk_trans (Nat.le_of_not_lt h2) (Nat.le_of_not_lt h1)
  omega
theorem sorted_E {d' : Array El} (h : SortedIn (ltOf cfE) 0 d'.size d') : (d'.toList.map bk).Pairwise (fun p q => (p.2 : Rat) / (p.1 : Rat) ≤ (q.2 : Rat) / (q.1 : Rat)) := by
 rw [List.pairwise_map, List.pairwise_iff_getElem]
 intro i j hi hj hij
 have h1 := h i j (Nat.zero_le _) hij (by simpa using hj)
 rw [lt_E, decide_eq_false_iff_not] at h1
 have hi' : i < d'.size := by simpa using hi
 have hj' : j < d'.size := by simpa using hj
 rw [getElem!_pos d' i hi', getElem!_pos d' j hj'] at h1
 rw [Array.getElem_toList, Array.getElem_toList]
 exact ful_le (bk_good _).1 (bk_good _).1 (Nat.le_of_not_lt h1)
theorem perm_E {d d' : Array El} (h : PermIn 0 d.size d d') : (d'.toList.map bk).Perm (d.toList.map bk) := by
 have h3 := h.2.2
 rw [Array.extract_eq_self_of_le (by rw [h.1]; exact Nat.le_refl _), Array.extract_size] at h3
 exact h3.map bk
theorem bk_map {m : List (Nat × Nat)} (h : GoodK m) : ((m.map toA).toArray.toList.map bk) = m := by
 rw [List.map_map]
 refine (List.map_congr_left (g := id) fun p hp => ?_).trans (List.map_id m)
 exact bk_toA (h.2 p hp)
end
attribute [local go_sem] Oper.semAt_some
def kCells (m : List (Nat × Nat)) : List Value := m.flatMap fun p => [.int .i64 (p.1 : Int), .int .i64 (p.2 : Int)]
theorem kCells_app (m k : List (Nat × Nat)) : kCells (m ++ k) = kCells m ++ kCells k := by simp [kCells]
theorem kCells_get {m : List (Nat × Nat)} {i : Nat} (h : i < m.length) : (kCells m)[i * 2]? = some (.int .i64 (m[i].1 : Int)) := by
 induction m generalizing i with
 | nil => simp at h
 | cons a m ih =>
  cases i with
  | zero => rfl
  | succ i =>
   have := ih (i := i) (by simpa using h)
   simp only [List.getElem_cons_succ]
   rw [← this, show (i + 1) * 2 = i * 2 + 1 + 1 by omega]
   rfl
theorem kCells_get1 {m : List (Nat × Nat)} {i : Nat} (h : i < m.length) : (kCells m)[i * 2 + 1]? = some (.int .i64 (m[i].2 : Int)) := by
 induction m generalizing i with
 | nil => simp at h
 | cons a m ih =>
  cases i with
  | zero => rfl
  | succ i =>
   have := ih (i := i) (by simpa using h)
   simp only [List.getElem_cons_succ]
   rw [← this, show (i + 1) * 2 + 1 = i * 2 + 1 + 1 + 1 by omega]
   rfl
def KidsC (w : World) (A : Option Addr) (m : List (Nat × Nat)) : Prop := ∀ i (hi : i < m.length), ∃ ad, A = some ad ∧ w.cell? (ad.add (i * 2)) = some (.int .i64 (m[i].1 : Int)) ∧ w.cell? ⟨(ad.add (i * 2)).block, (ad.add (i * 2)).off + 1, none⟩ = some (.int .i64 (m[i].2 : Int))
theorem add_block' (ad : Addr) (k : Nat) : (ad.add k).block = ad.block := by
 unfold Addr.add
 split <;> rfl
theorem KidsC.below {w w' : World} {n₀ : Nat} {A : Option Addr} {m : List (Nat × Nat)} (h : KidsC w A m) (hb : Below n₀ w w') (hlt : ∀ ad, A = some ad → m ≠ [] → ad.block < n₀) : KidsC w' A m := fun i hi => by
 obtain ⟨ad, e, h1, h2⟩ := h i hi
 have hl : (ad.add (i * 2)).block < n₀ := by rw [add_block']; exact hlt ad e (by rintro rfl; simp at hi)
 exact ⟨ad, e, (hb.cell hl).trans h1, (hb.cell (p := ⟨(ad.add (i * 2)).block, (ad.add (i * 2)).off + 1, none⟩) hl).trans h2⟩
theorem KidsC.keep {w w' : World} {A : Option Addr} {m : List (Nat × Nat)} (h : KidsC w A m) (hb : Below w.heap.size w w') : KidsC w' A m := fun i hi => by
 obtain ⟨ad, e, h1, h2⟩ := h i hi
 exact ⟨ad, e, (hb.cell (block_lt_of_cell h1)).trans h1, (hb.cell (block_lt_of_cell h2)).trans h2⟩
theorem KidsC.of {w : World} {A : Option Addr} {m : List (Nat × Nat)} (h : Kd.C k90 w A m.length (m.map chOf)) : KidsC w A m := fun i hi => by
 have hr : rd_T90 (m.map chOf) (i : Int) = chOf m[i] := by
  unfold rd_T90
  rw [Int.toNat_natCast, List.getD_eq_getElem?_getD, List.getElem?_map, List.getElem?_eq_getElem hi]
  rfl
 obtain ⟨ad, e, h1, h2⟩ := at_T90 h (i : Int) (by omega) (by omega)
 rw [hr, Int.toNat_natCast] at h1
 rw [hr, Int.toNat_natCast] at h2
 exact ⟨ad, e, h1, h2⟩
theorem vals_make (A : Option Addr) (n cap : Nat) (W : World) : Calls Tryz.prog 75 #[.slice A n cap] W fun e w' => e = .returned (.func (.func 125) #[] #[.pointer (some ⟨W.heap.size, 0, none⟩)]) ∧ w' = W.alloc (.cells #[.slice A n cap] 85) := by
 go_enter Tryz.func75, Tryz.ntmps75
 go_wp2_with fail
 go_ret
 exact ⟨rfl, rfl⟩
theorem vals_iter (n : Nat) (hn : 1 ≤ n) (l Bn n₀ : Nat) (A : Option Addr) (cap : Nat) (m : List (Nat × Nat)) (hlen : m.length ≤ 1000) (hlt : ∀ ad, A = some ad → m ≠ [] → ad.block < n₀) (J Jx : List (Nat × Nat) → World → Prop)
  (hY : ∀ pre x W, J pre W → pre.length < m.length → YieldAt Fence.wide (n - 1) Tryz.prog l #[.agg #[.int .i64 (x.1 : Int), .int .i64 (x.2 : Int)]] W fun e W' =>
   (e = .returned (.bool true) ∧ J (pre ++ [x]) W' ∧ Below n₀ W W') ∨ (e = .returned (.bool false) ∧ Jx (pre ++ [x]) W'))
  (W : World) (hn₀ : n₀ ≤ W.heap.size) (hJn : ∀ s X Y, J s X → X.grownBy Y none → J s Y) (hBn : W.cell? ⟨Bn, 0, none⟩ = some (.slice A m.length cap)) (hK : KidsC W A m) (h0 : J [] W) :
  CallsIn Fence.wide n Tryz.prog 125 #[.func (.yield l) #[] #[], .pointer (some ⟨Bn, 0, none⟩)] W fun e W' => (∃ v, e = .returned v) ∧
   ((∃ ys, ys = m ∧ J ys W') ∨ (∃ pre, pre <+: m ∧ Jx pre W')) := by
 have HK := Aside0.mk hK
 have HL := Aside0.mk hlen
 clear hK hlen
 refine callsIn_of_wp Tryz.func125 rfl trivial ?_ rfl
 simp only [Tryz.ntmps125, List.size_toArray, List.length_cons, List.length_nil, Nat.reduceAdd, Nat.reduceSub, Array.replicate_succ, Array.replicate_zero, List.push_toArray, List.append_toArray, List.nil_append, List.cons_append]
 gi_wp2
 gi_loopw [7] (fun p wr => ∃ i : Nat, p = .int .i64 (i : Int) ∧ Aside0 (i ≤ m.length) ∧ Aside0 (KidsC wr A m) ∧ Aside0 (n₀ ≤ wr.heap.size) ∧ J (m.take i) wr)
  (fun p _ => m.length - (match p with | .int _ z => z.toNat | _ => 0))
 case atStart => exact ⟨0, by go_num, ⟨Nat.zero_le _⟩, HK, ⟨hn₀⟩, h0⟩
 case round =>
  obtain ⟨i, rfl, HI, HKr, HN, hJs⟩ := hrel
  by_cases hil : i < m.length
  ·
   have d1 : decide ((i : Int) < (m.length : Int)) = true := decide_eq_true (by omega)
   have d3 : 0 ≤ (i : Int) ∧ (i : Int) < (m.length : Int) := by omega
   obtain ⟨⟨g, o, q⟩, rfl, c0, c1⟩ := HKr.out i hil
   have htk : m.take (i + 1) = m.take i ++ [m[i]] := List.take_succ_eq_append_getElem hil
   have HTK := Aside0.mk htk
   clear htk
   have hlen2 : (m.take i).length < m.length := by rw [List.length_take]; omega
   obtain ⟨fn, tmps, assign, body, hy, hR⟩ := hY (m.take i) m[i] (wr.alloc (.cells #[.int .i64 (m[i].1 : Int), .int .i64 (m[i].2 : Int)] 90)) (hJn _ _ _ hJs (World.grownBy_alloc wr _ none)) hlen2
   clear hlen2
   gi_wp2
   refine hR.mono ?_
   rintro e W3 (⟨rfl, hJ3, hk3⟩ | ⟨rfl, hJx3⟩)
   ·
    have hb3 : Below n₀ wr W3 := ((Below.refl n₀ wr).alloc HN.out _).trans hk3
    have hi1 : wrap64 ((i : Int) + 1) = ((i + 1 : Nat) : Int) := by (have := HL.out; unfold wrap64; omega)
    have HI1 := Aside0.mk hi1
    clear hi1
    have HK3 := Aside0.mk (HKr.out.below hb3 hlt)
    have HN3 : Aside0 (n₀ ≤ W3.heap.size) := ⟨Nat.le_trans HN.out hb3.size⟩
    have HJ3 := Aside0.mk hJ3
    clear hJ3 hk3 hb3 hR hy
    gi_wp2
    go_roundw
    case rel => exact ⟨i + 1, by rw [HI1.out], ⟨by omega⟩, HK3, HN3, by rw [HTK.out]; exact HJ3.out⟩
    case measure =>
     show m.length - (wrap64 ((i : Int) + 1)).toNat < m.length - (i : Int).toNat
     rw [HI1.out]
     omega
   ·
    gi_wp2
    refine bodyPost_ret (results_none rfl _ _ _) rfl ?_
    refine ⟨⟨_, rfl⟩, .inr ⟨m.take (i + 1), List.take_prefix _ _, ?_⟩⟩
    rw [HTK.out]
    exact hJx3
  ·
   have d1 : decide ((i : Int) < (m.length : Int)) = false := decide_eq_false (by omega)
   gi_wp2
   go_end0
   refine ⟨⟨_, rfl⟩, .inl ⟨m, rfl, ?_⟩⟩
   have e : m.take i = m := List.take_of_length_le (by omega)
   rw [e] at hJs
   exact hJs
theorem vals_stops (n : Nat) (hn : 1 ≤ n) (Bn n₀ : Nat) (A : Option Addr) (cap : Nat) (m : List (Nat × Nat)) (hlen : m.length ≤ 1000) (hlt : ∀ ad, A = some ad → m ≠ [] → ad.block < n₀) (w : World) (hBn : Bn < n₀) (hn₀ : n₀ ≤ w.heap.size) (hc : w.cell? ⟨Bn, 0, none⟩ = some (.slice A m.length cap)) (hK : KidsC w A m) :
  SeqStopsK Fence.wide n Tryz.prog 125 #[.pointer (some ⟨Bn, 0, none⟩)] (fun x : Nat × Nat => #[Value.agg #[.int .i64 (x.1 : Int), .int .i64 (x.2 : Int)]]) (Below n₀) (fun ys => ys = m) (fun pre => pre <+: m) m.length w := fun l J Jx W hW hJ _ hY h0 =>
 vals_iter n hn l Bn n₀ A cap m hlen hlt J Jx hY W (Nat.le_trans hn₀ hW.size) (fun s X Y hs hg => hJ s X Y none hs hg (fun r e => by cases e)) ((hW.cell (p := ⟨Bn, 0, none⟩) (Nat.lt_of_lt_of_le hBn hn₀)).trans hc) (hK.below (hW.mono hn₀) hlt) h0
theorem child_info : (Tryz.prog.info? 90).map (fun i => (i.zero, i.size, i.bytes)) = some (some (.agg #[.int .i64 0, .int .i64 0]), 2, 16) := by kernel_rfl
theorem two_new (W : World) (a b : Value) (t : TypeId) : ∀ j u, [a, b][j]? = some u → (W.alloc (.cells #[a, b] t)).cell? ((⟨W.heap.size, 0, none⟩ : Addr).add j) = some u := by
 intro j u h
 have hb := zdl W (.cells #[a, b] t)
 have e : ((⟨W.heap.size, 0, none⟩ : Addr).add j) = ⟨W.heap.size, j, none⟩ := add_plain ..
 rw [e, zac hb j]
 match j, h with
 | 0, h => exact h
 | 1, h => exact h
theorem row_putD {W : World} {base : Nat} {e : TypeId} {size : Nat} {v : Value} {n : Nat} {xs : List Value} {D : Nat} {d : Option (List Deferred)} (h : W.ownsRow base e size v n xs) (hD : W.heap[D]? = some (.deferred d)) : (W.putObj D (.deferred none)).ownsRow base e size v n xs := by
 refine h.kept (grownBy_putObj' W D _) ?_
 rcases h.2 with ⟨rfl, _⟩ | ⟨g, cap, cur, rfl, _, hgb, _⟩
 ·
  exact .inl rfl
 ·
  refine .inr fun e' => ?_
  have e2 : D = g := by simpa [Value.ownBlock] using e'.symm
  subst e2
  rw [hgb] at hD
  cases hD
theorem append_in (n : Nat) (hn : 3 ≤ n) (Bn : Nat) (A : Option Addr) (cap : Nat) (m : List (Nat × Nat)) (hlen : m.length ≤ 1000) (w : World) (hlt : ∀ ad, A = some ad → m ≠ [] → ad.block < w.heap.size) (hBn : Bn < w.heap.size) (hc : w.cell? ⟨Bn, 0, none⟩ = some (.slice A m.length cap)) (hK : KidsC w A m) :
  CallsIn Fence.wide n Tryz.prog 157 #[.slice none 0 0, .func (.func 125) #[] #[.pointer (some ⟨Bn, 0, none⟩)]] w fun e W' => (∃ v, e = .returned v ∧ W'.ownsRow w.heap.size 90 2 v m.length (kCells m)) ∧ Below w.heap.size w W' := by
 have h1 : 1 ≤ n := by omega
 refine callsIn_of_wp_marks Tryz.func157 rfl trivial ?_ rfl
 simp only [Tryz.ntmps157, List.size_toArray, List.length_cons, List.length_nil, Nat.reduceAdd, Nat.reduceSub, Array.replicate_succ, Array.replicate_zero, List.push_toArray, List.append_toArray, List.nil_append, List.cons_append]
 gi_wp2
 have hb0 := Boxed.new w 85 (.slice none 0 0)
 have hB0 : Below w.heap.size w (w.alloc (.cells #[.slice none 0 0] 85)) := (Below.refl _ w).alloc (Nat.le_refl _) _
 have hc0 := (hB0.cell (p := ⟨Bn, 0, none⟩) hBn).trans hc
 have hK0 := hK.below hB0 hlt
 refine wpIn_rangeFunc_ownH rfl h1 (gf := 125) (lb := #[.pointer (some ⟨Bn, 0, none⟩)]) rfl trivial (enters_of Tryz.func125 (by kernel_rfl) rfl)
  (vals_stops (n - 1) (by omega) Bn w.heap.size A cap m hlen hlt _ hBn (by simp) hc0 hK0) belowK_t (belowK_b (by simp)) (Below.refl _ _) (fun _ => rfl)
  (fun pre W => (∃ v, Boxed W w.heap.size 85 v ∧ W.ownsRow w.heap.size 90 2 v pre.length (kCells pre) ∧ True) ∧ Below w.heap.size w W)
  (fun _ _ _ => False)
  (OwnFrom.and (Own.from (holdsRow_own w.heap.size w.heap.size 85 90 2 (fun pre => pre.length) (fun pre => kCells pre) (fun _ _ => True)) _) (ownFrom_below (Nat.le_refl _) (by simp)))
  (fun _ _ _ _ _ hs _ _ => hs)
  ⟨⟨.slice none 0 0, hb0, World.ownsRow_nil _ _ _ _, trivial⟩, hB0⟩
  (fun x a' W => ∃ b, a' = { tmps := #[.slice none 0 0, .func (.func 125) #[] #[.pointer (some ⟨Bn, 0, none⟩)], .pointer (some ⟨w.heap.size, 0, none⟩), undef, .slice none 0 0, .pointer (some ⟨b, 0, none⟩), .func (.func 125) #[] #[.pointer (some ⟨Bn, 0, none⟩)], .agg #[.int .i64 (x.1 : Int), .int .i64 (x.2 : Int)], undef, undef, undef, undef, undef], defers := [] } ∧ W.heap[b]? = some (.cells #[.int .i64 (x.1 : Int), .int .i64 (x.2 : Int)] 90 (0, 0)))
  ?hAx ?assign ?body ?done ?stop
 case hAx =>
  rintro x a' s X Y row ⟨b, e, hb⟩ hg hrow
  refine ⟨b, e, (hg.block b (zaw hb) fun e' => ?_).trans hb⟩
  obtain ⟨_, o, ho, hoc⟩ := hrow b e'.symm
  rw [hb] at ho
  cases ho
  cases hoc
 case assign =>
  rintro l pre x W K ⟨⟨v, hv, hrow, _⟩, hB⟩ hKK
  gi_wp2
  exact hKK _ _ ((KeepsOthers.alloc W _).from _) ((Below.refl _ W).alloc hB.size _) ⟨⟨v, hv.alloc _, hrow.alloc _, trivial⟩, hB.alloc hB.size _⟩ ⟨W.heap.size, rfl, zdl W _⟩
 case stop =>
  rintro D c pre W _ _ h _
  exact h.elim
 case body =>
  rintro l pre x a' W hl hrec ⟨⟨v, hv, hrow, _⟩, hB⟩ ⟨b, rfl, hbx⟩ hlt2
  have hcell := hv.cell
  have hfro := hv.frozen
  have hform : ∃ A cap, v = .slice A pre.length cap := by
   rcases hrow.2 with ⟨rfl, h0⟩ | ⟨g, cap, cur, rfl, _⟩
   ·
    exact ⟨none, 0, by rw [h0]⟩
   ·
    exact ⟨_, _, rfl⟩
  obtain ⟨A', cap', rfl⟩ := hform
  obtain ⟨i0, hi, hz0, hz1, hz2⟩ := info_parts child_info
  have c0 : W.cell? ⟨b, 0, none⟩ = some (.int .i64 (x.1 : Int)) := (zac hbx 0).trans rfl
  have c1 : W.cell? ⟨b, 1, none⟩ = some (.int .i64 (x.2 : Int)) := (zac hbx 1).trans rfl
  have hRow := Aside0.mk hrow
  have hBx := Aside0.mk hB
  have hVx := Aside0.mk hv
  have hmax : 1000 ≤ maxLen := by decide
  have HL2 : Aside0 (pre.length < 1000) := ⟨by omega⟩
  have HBX := Aside0.mk hbx
  clear hrow hB hv hbx hrec hlt2 hc0 hK0 hB0 hb0
  generalize hkl : pre.length = k at hcell hRow HL2 hVx ⊢
  have HKL := Aside0.mk hkl
  clear hkl
  gi_wp2_with (gi_at_builtin; refine wpListIn_append_own _ rfl _ _ 85 rfl w.heap.size 90 i0 (.agg #[.int .i64 0, .int .i64 0]) 2 16 Tryz.underlying85 hi hz0 hz1 hz2 rfl (by decide) _ _ _ rfl (hRow.out.alloc _) ⟨W.heap.size, 0, none⟩ 1 1 [.int .i64 (x.1 : Int), .int .i64 (x.2 : Int)] rfl rfl (two_new _ _ _ _) (by simp [Value.oneCell']) (by have := HL2.out; omega) (by have := HL2.out; omega) (by have := hBx.out.size; simp; omega) ?_; intro v' w1 hown' hgrow _; obtain ⟨g', cap', rfl⟩ := ownsRow_succ hown'; obtain ⟨hv1, hv2, hr2, hk2, hb2⟩ := hVx.out.appended (by decide) hRow.out hBx.out.size (Nat.le_refl _) hown' hgrow; have hc1 := hv1.cell; have hf1 := hv1.frozen)
  refine ⟨hk2.from _, hb2, ⟨_, hv2, ?_, trivial⟩, hBx.out.trans hb2⟩
  rw [List.length_append, HKL.out, kCells_app]
  exact hr2
 case done =>
  rintro D ys W hD rfl ⟨⟨v, hv, hrow, _⟩, hB⟩ hKd
  have hcell := hv.cell
  have hRow := Aside0.mk hrow
  have hBx := Aside0.mk hB
  have hVx := Aside0.mk hv
  have HKD := Aside0.mk hKd
  have HD := Aside0.mk hD
  clear hrow hB hv hKd hD hc0 hK0 hB0 hb0
  gi_wp2
  refine ⟨by simp, .inl ⟨_, _, rfl, run_takeDeferred HKD.out, ?_⟩⟩
  exact ⟨_, results_tmp rfl _ _ _, ⟨v, rfl, row_putD hRow.out HKD.out⟩, hBx.out.trans (belowK_b (w := w) (Nat.le_refl _) W D _ _ (by have := HD.out; simp at this; omega) HKD.out rfl rfl)⟩
theorem collect_ok (Bn : Nat) (A : Option Addr) (cap : Nat) (m : List (Nat × Nat)) (hlen : m.length ≤ 1000) (w : World) (hlt : ∀ ad, A = some ad → m ≠ [] → ad.block < w.heap.size) (hBn : Bn < w.heap.size) (hc : w.cell? ⟨Bn, 0, none⟩ = some (.slice A m.length cap)) (hK : KidsC w A m) :
  Calls Tryz.prog 123 #[.func (.func 125) #[] #[.pointer (some ⟨Bn, 0, none⟩)]] w fun e W' => (∃ v, e = .returned v ∧ W'.ownsRow w.heap.size 90 2 v m.length (kCells m)) ∧ Below w.heap.size w W' := by
 have HA := Aside0.mk (callsIn_wide.1 (append_in 3 (Nat.le_refl _) Bn A cap m hlen w hlt hBn hc hK))
 clear hc hK hlt hBn hlen
 go_enter Tryz.func123, Tryz.ntmps123
 go_wp2_with fail
 refine HA.out.mono ?_
 rintro e w2 ⟨⟨v, rfl, hrow⟩, hb⟩
 have HR := Aside0.mk hrow
 have HB := Aside0.mk hb
 clear hrow hb
 go_wp2_with fail
 go_ret
 exact ⟨⟨_, rfl, HR.out⟩, HB.out⟩
end Go.Proofs.YthiicmanfpmipaaGreatDoor.P
end
section
namespace Go.Proofs.YthiicmanfpmipaaGreatDoor.P
open Go.RowKit Go.Proofs.YthiicmanfpmipaaGreatDoorW.PrintWords Go.Proofs.YthiicmanfpmipaaGreatDoorW.PrintLast Go.Proofs.YthiicmanfpmipaaGreatDoorW.PrintMore
attribute [local go_sem] zci zcj zcs zcr zb9 zca zcg zch
def sortC_ren : Go.Shelf.Ren := ⟨fun | 6 => 124 | 15 => 159 | 14 => 158 | 28 => 185 | 29 => 160 | 20 => 177 | 21 => 178 | 22 => 179 | 23 => 180 | 24 => 181 | 25 => 182 | 26 => 183 | 27 => 184 | 46 => 194 | 47 => 195 | 48 => 196 | 49 => 197 | 50 => 198 | 57 => 202 | n => n, fun | 22 => 85 | 24 => 90 | 25 => 139 | 3 => 3 | 39 => 198 | 0 => 0 | 53 => 241 | 55 => 82 | 4 => 4 | 46 => 247 | 45 => 246 | 50 => 251 | 5 => 5 | 9 => 9 | 66 => 263 | 70 => 267 | 76 => 270 | 77 => 271 | n => n, fun | n => n⟩
theorem sortC : Go.Proofs.SlLaysF0.n6 Tryz.prog sortC_ren where
 mixed := by kernel_rfl
 f6 := ⟨ "slices.SortFunc[[]roundel/fill.child,roundel/fill.child]", by decide, Tryz.func124.trans (congrArg some (by kernel_rfl))⟩
 f14 := ⟨ "slices.pdqsortCmpFunc[roundel/fill.child]", by decide, Tryz.func158.trans (congrArg some (by kernel_rfl))⟩
 f15 := Tryz.func159.trans (congrArg some (by kernel_rfl))
 f20 := ⟨ "slices.insertionSortCmpFunc[roundel/fill.child]", by decide, Tryz.func177.trans (congrArg some (by kernel_rfl))⟩
 f21 := ⟨ "slices.heapSortCmpFunc[roundel/fill.child]", by decide, Tryz.func178.trans (congrArg some (by kernel_rfl))⟩
 f22 := ⟨ "slices.breakPatternsCmpFunc[roundel/fill.child]", by decide, Tryz.func179.trans (congrArg some (by kernel_rfl))⟩
 f23 := ⟨ "slices.choosePivotCmpFunc[roundel/fill.child]", by decide, Tryz.func180.trans (congrArg some (by kernel_rfl))⟩
 f24 := ⟨ "slices.reverseRangeCmpFunc[roundel/fill.child]", by decide, Tryz.func181.trans (congrArg some (by kernel_rfl))⟩
 f25 := ⟨ "slices.partialInsertionSortCmpFunc[roundel/fill.child]", by decide, Tryz.func182.trans (congrArg some (by kernel_rfl))⟩
 f26 := ⟨ "slices.partitionEqualCmpFunc[roundel/fill.child]", by decide, Tryz.func183.trans (congrArg some (by kernel_rfl))⟩
 f27 := ⟨ "slices.partitionCmpFunc[roundel/fill.child]", by decide, Tryz.func184.trans (congrArg some (by kernel_rfl))⟩
 f28 := Tryz.func185.trans (congrArg some (by kernel_rfl))
 f29 := Tryz.func160.trans (congrArg some (by kernel_rfl))
 f46 := ⟨ "slices.siftDownCmpFunc[roundel/fill.child]", by decide, Tryz.func194.trans (congrArg some (by kernel_rfl))⟩
 f47 := Tryz.func195.trans (congrArg some (by kernel_rfl))
 f48 := Tryz.func196.trans (congrArg some (by kernel_rfl))
 f49 := ⟨ "slices.medianAdjacentCmpFunc[roundel/fill.child]", by decide, Tryz.func197.trans (congrArg some (by kernel_rfl))⟩
 f50 := ⟨ "slices.medianCmpFunc[roundel/fill.child]", by decide, Tryz.func198.trans (congrArg some (by kernel_rfl))⟩
 f57 := ⟨ "slices.order2CmpFunc[roundel/fill.child]", by decide, Tryz.func202.trans (congrArg some (by kernel_rfl))⟩
 t0 := Tryz.underlying0
 a0 := Tryz.isAgg0
 z0 := Tryz.sizeOf0
 v0 := Tryz.zeroValue0
 t3 := Tryz.underlying3
 a3 := Tryz.isAgg3
 z3 := Tryz.sizeOf3
 v3 := Tryz.zeroValue3
 t4 := Tryz.underlying4
 a4 := Tryz.isAgg4
 z4 := Tryz.sizeOf4
 v4 := Tryz.zeroValue4
 t5 := Tryz.underlying5
 a5 := Tryz.isAgg5
 z5 := Tryz.sizeOf5
 v5 := Tryz.zeroValue5
 t9 := Tryz.underlying9
 a9 := Tryz.isAgg9
 z9 := Tryz.sizeOf9
 v9 := Tryz.zeroValue9
 t22 := Tryz.underlying85
 a22 := Tryz.isAgg85
 z22 := Tryz.sizeOf85
 v22 := Tryz.zeroValue85
 t25 := Tryz.underlying139
 a25 := Tryz.isAgg139
 z25 := Tryz.sizeOf139
 v25 := Tryz.zeroValue139
 t39 := Tryz.underlying198
 a39 := Tryz.isAgg198
 z39 := Tryz.sizeOf198
 v39 := Tryz.zeroValue198
 t45 := Tryz.underlying246
 a45 := Tryz.isAgg246
 z45 := Tryz.sizeOf246
 v45 := Tryz.zeroValue246
 t46 := Tryz.underlying247
 a46 := Tryz.isAgg247
 z46 := Tryz.sizeOf247
 v46 := Tryz.zeroValue247
 t50 := Tryz.underlying251
 a50 := Tryz.isAgg251
 z50 := Tryz.sizeOf251
 v50 := Tryz.zeroValue251
 t53 := Tryz.underlying241
 a53 := Tryz.isAgg241
 z53 := Tryz.sizeOf241
 v53 := Tryz.zeroValue241
 t55 := Tryz.underlying82
 a55 := Tryz.isAgg82
 z55 := Tryz.sizeOf82
 v55 := Tryz.zeroValue82
 t66 := Tryz.underlying263
 a66 := Tryz.isAgg263
 z66 := Tryz.sizeOf263
 v66 := Tryz.zeroValue263
 t70 := Tryz.underlying267
 a70 := Tryz.isAgg267
 z70 := Tryz.sizeOf267
 v70 := Tryz.zeroValue267
 t76 := Tryz.underlying270
 a76 := Tryz.isAgg270
 z76 := Tryz.sizeOf270
 v76 := Tryz.zeroValue270
 t77 := Tryz.underlying271
 a77 := Tryz.isAgg271
 z77 := Tryz.sizeOf271
 v77 := Tryz.zeroValue271
section
open Go.Shelf
theorem early_lays (x y : El) (W : World) : Calls Tryz.prog 76 #[.agg (encE x).toArray, .agg (encE y).toArray] W fun e w' => e = .returned (.int .i64 (cfE x y)) ∧ ∃ q os', w' = Sort.grow (W.drewN q) os' := by
 obtain ⟨a1, a2, a3⟩ := bk_good x
 obtain ⟨b1, b2, b3⟩ := bk_good y
 unfold encE cfE
 generalize bk x = p at a1 a2 a3 ⊢
 generalize bk y = q at b1 b2 b3 ⊢
 obtain ⟨p1, p2⟩ := p
 obtain ⟨q1, q2⟩ := q
 dsimp only at a1 a2 a3 b1 b2 b3 ⊢
 have key : ∀ x y : Nat, x ≤ 10000 → y ≤ 10000 → x * y ≤ 100000000 := fun x y hx hy => Nat.le_trans (Nat.mul_le_mul hx hy) (by decide)
 have h1 := key p2 q1 (by omega) (by omega)
 have h2 := key q2 p1 (by omega) (by omega)
 have e1 : wrap64 ((p2 : Int) * (q1 : Int)) = ((p2 * q1 : Nat) : Int) := by rw [← Int.natCast_mul]; unfold wrap64; omega
 have e2 : wrap64 ((q2 : Int) * (p1 : Int)) = ((q2 * p1 : Nat) : Int) := by rw [← Int.natCast_mul]; unfold wrap64; omega
 have e3 : wrap64 (((p2 * q1 : Nat) : Int) - ((q2 * p1 : Nat) : Int)) = (p2 : Int) * (q1 : Int) - (q2 : Int) * (p1 : Int) := by rw [← Int.natCast_mul, ← Int.natCast_mul]; unfold wrap64; omega
 have E1 := Aside0.mk e1
 have E2 := Aside0.mk e2
 have E3 := Aside0.mk e3
 clear key h1 h2 e1 e2 e3 a1 a2 a3 b1 b2 b3
 go_enter Tryz.func76, Tryz.ntmps76
 go_wp2_with fail
 go_ret
 exact ⟨by
  show Ending.returned (Value.int .i64 (wrap64 (wrap64 ((p2 : Int) * (q1 : Int)) - wrap64 ((q2 : Int) * (p1 : Int))))) = _
  rw [E1.out, E2.out, E3.out], 0, _, by rw [Sort.alloc_eq_grow, Sort.alloc_eq_grow, Sort.grow_grow]; rfl⟩
theorem early_cmp (blk off size : Nat) (w : World) : CmpLays Tryz.prog 76 #[] encE 2 cfE blk off size w := fun _ _ _ _ x y => early_lays x y _
theorem below_sortK {α : Type} [Inhabited α] (enc : α → List Value) (k : Nat) (w : World) (blk off n : Nat) (dk : Array α) (os : Array Obj) (base : Nat) (hb : base ≤ blk) (hbw : base ≤ w.heap.size) : Below base w (sortWorldK enc k w blk off n dk os) := by
 refine ⟨rfl, rfl, rfl, ?_, fun j hj => ?_⟩
 ·
  unfold sortWorldK Sort.grow Sort.putRowK Sort.putRow Sort.mapBlock Sort.ahead
  simp
 ·
  unfold sortWorldK Sort.grow Sort.putRowK Sort.putRow Sort.mapBlock Sort.ahead
  have h1 : j < (w.heap.modify blk (Sort.onCells (Sort.putCells id off (Sort.flatK enc k dk)))).size := by simp; omega
  show ((w.heap.modify blk (Sort.onCells (Sort.putCells id off (Sort.flatK enc k dk)))) ++ os)[j]? = w.heap[j]?
  rw [Array.getElem?_append_left h1, Array.getElem?_modify, if_neg (by omega)]
theorem flat_E (m : List (Nat × Nat)) (hm : GoodK m) (j : Nat) (hj : j < m.length * 2) : (kCells m)[j]? = some ((Sort.flatK encE 2 (m.map toA).toArray)[j]!) := by
 have hs : (m.map toA).toArray.size = m.length := by simp
 rw [Sort.get_flatK _ _ _ j (by rw [hs]; exact hj)]
 have hi : j / 2 < m.length := by omega
 have e : (m.map toA).toArray[j / 2]! = toA m[j / 2] := by
  rw [getElem!_pos _ _ (by rw [hs]; exact hi)]
  simp
 rw [e]
 unfold encE
 rw [bk_toA (hm.2 _ (List.getElem_mem hi))]
 rcases Nat.mod_two_eq_zero_or_one j with h | h
 ·
  rw [h]
  have := kCells_get (m := m) hi
  rw [show j / 2 * 2 = j by omega] at this
  exact this
 ·
  rw [h]
  have := kCells_get1 (m := m) hi
  rw [show j / 2 * 2 + 1 = j by omega] at this
  exact this
theorem sort_ok (g cap : Nat) (m : List (Nat × Nat)) (hm : GoodK m) (w : World) (base : Nat) (hbase : base ≤ w.heap.size) (hrow : w.ownsRow base 90 2 (.slice (some ⟨g, 0, none⟩) m.length cap) m.length (kCells m)) :
  Calls Tryz.prog 124 #[.slice (some ⟨g, 0, none⟩) m.length cap, .func (.func 76) #[] #[]] w fun e w' => e = .returned (.tuple #[]) ∧ ∃ s : List (Nat × Nat), s.Perm m ∧ s.Pairwise (fun p q => (p.2 : Rat) / (p.1 : Rat) ≤ (q.2 : Rat) / (q.1 : Rat)) ∧ KidsC w' (some ⟨g, 0, none⟩) s ∧ Below base w w' := by
 have hs : (m.map toA).toArray.size = m.length := by simp
 obtain ⟨hg1, hg2⟩ := hrow.lt g rfl
 have hH : Sort.HoldsK encE 2 w g 0 (m.map toA).toArray := fun j hj => by
  rw [Sort.size_flatK, hs] at hj
  refine ⟨?_, hrow.frozenAt _⟩
  rw [Nat.zero_add, hrow.cellAt j (by omega)]
  exact flat_E m hm j hj
 have h := AnyQ.slices_SortFunc sortC 2 Tryz.isAgg90 Tryz.sizeOf90 encE (fun _ => rfl) (fun x v hv => by simp [encE] at hv; rcases hv with rfl | rfl <;> rfl) cfE swoE 76 #[] g 0 cap (m.map toA).toArray w (enters_of Tryz.func76 (by kernel_rfl) rfl) (early_cmp _ _ _ _) hH hg2 (by rw [hs]; have := hm.1; omega)
 rw [hs] at h
 refine h.mono ?_
 rintro e w' ⟨rfl, d', n, os, hp, hso, rfl⟩
 have hsz : d'.size = m.length := by rw [hp.1, hs]
 have hH' := holdsK_sortWorldK_c encE 2 w g 0 (m.map toA).toArray d' n os hH hg2 hp.1
 rw [← hs, ← hp.1] at hso
 refine ⟨rfl, d'.toList.map bk, ?_, sorted_E hso, fun i hi => ?_, below_sortK _ _ _ _ _ _ _ _ _ hg1 hbase⟩
 ·
  have hp' : Sort.PermIn 0 (m.map toA).toArray.size (m.map toA).toArray d' := by rw [hs]; exact hp
  have := perm_E hp'
  rw [bk_map hm] at this
  exact this
 ·
  have hi' : i < d'.size := by simpa using hi
  have ee : (d'.toList.map bk)[i] = bk d'[i]! := by
   rw [getElem!_pos d' i hi']
   simp
  have q0 := (hH'.cell hi' (show 0 < 2 by decide)).1
  have q1 := (hH'.cell hi' (show 1 < 2 by decide)).1
  rw [Nat.zero_add] at q0 q1
  refine ⟨_, rfl, ?_, ?_⟩
  ·
   rw [ee, add_plain]
   exact q0
  ·
   rw [ee, add_plain]
   exact q1
end
end Go.Proofs.YthiicmanfpmipaaGreatDoor.P
end
section
namespace Go.Proofs.YthiicmanfpmipaaGreatDoor.P
open Go.RowKit Go.Proofs.YthiicmanfpmipaaGreatDoorW.PrintWords Go.Proofs.YthiicmanfpmipaaGreatDoorW.PrintLast Go.Proofs.YthiicmanfpmipaaGreatDoorW.PrintMore
attribute [local go_sem] zci zcj zcs zcr zb9 zca zcg zch
attribute [local go_sem] Oper.semAt_some
section
variable {w : World} {A0 A1 : Option Addr} {c0 c1 : Nat} {r : Rat} {m : Nat}
theorem t_Good (h1 : Rt w A0 c0 (rN r) A1 c1 (rD r)) (hr : Bd r m) (hm : m ≤ 90000) : Calls Tryz.prog 72 #[.agg #[.slice A0 (rN r).length c0, .slice A1 (rD r).length c1]] w fun e w' => e = .returned (.bool true) ∧ Below w.heap.size w w' := by
 obtain ⟨k, hk⟩ := (qGood hr hm).get
 exact zc2.calls k A0 c0 (rN r) A1 c1 (rD r) true w h1.2.1 h1.1 h1.2.2.2 h1.2.2.1 hk
end
theorem IntsC.of {w : World} {A : Option Addr} {l : List Int} (h : Kd.C (Kd.int .i64) w A l.length l) : IntsC w A l := fun i hi => by
 obtain ⟨ad, e, hc⟩ := Kd.at_int h (i : Int) (by omega) (by omega)
 refine ⟨ad, e, ?_⟩
 rw [Int.toNat_natCast] at hc
 rw [hc]
 unfold rd
 rw [Int.toNat_natCast]
theorem out_enters (args : Array Value) (W : World) : (callFunc 71 args).run Tryz.prog W = .ok (.enter 71 args) W := by
 simp [callFunc]
 rfl
theorem fe1 {x : Rat} {ws cs : List Int} (h : ws.length ≠ cs.length) : fillE x ws cs = 17 := by unfold fillE; rw [if_pos h]
theorem fe2 {x : Rat} {ws cs : List Int} (h : ws.length = cs.length) (h2 : 32 < ws.length) : fillE x ws cs = 6 := by unfold fillE; rw [if_neg (fun e => e h), if_pos h2]
theorem fe3 {x : Rat} {ws cs : List Int} (h : ws.length = cs.length) (h2 : ¬ 32 < ws.length) (h3 : ws.any oddW = true) : fillE x ws cs = 13 := by unfold fillE; rw [if_neg (fun e => e h), if_neg h2, if_pos h3]
theorem fe4 {x : Rat} {ws cs : List Int} (h : ws.length = cs.length) (h2 : ¬ 32 < ws.length) (h3 : ws.any oddW = false) (h4 : cs.any outC = true) : fillE x ws cs = 14 := by unfold fillE; rw [if_neg (fun e => e h), if_neg h2, if_neg (by rw [h3]; decide), if_pos h4]
theorem fe5 {x : Rat} {ws cs : List Int} (h : ws.length = cs.length) (h2 : ¬ 32 < ws.length) (h3 : ws.any oddW = false) (h4 : cs.any outC = false) : fillE x ws cs = if csum (kids ws cs) < x then 14 else 0 := by unfold fillE; rw [if_neg (fun e => e h), if_neg h2, if_neg (by rw [h3]; decide), if_neg (by rw [h4]; decide)]
theorem kids_length {ws cs : List Int} (h : ws.length = cs.length) : (kids ws cs).length = ws.length := by
 unfold kids
 rw [List.length_map, List.length_zip]
 omega
theorem kids_good {ws cs : List Int} (h : ws.length = cs.length) (h2 : ¬ 32 < ws.length) (h3 : ws.any oddW = false) (h4 : cs.any outC = false) : GoodK (kids ws cs) ∧ ws = (kids ws cs).map (fun p => (p.1 : Int)) ∧ cs = (kids ws cs).map (fun p => (p.2 : Int)) := by
 have h5 := fe5 (x := 0) h h2 h3 h4
 have h6 : ¬ csum (kids ws cs) < 0 := by
  have key : ∀ l : List (Nat × Nat), 0 ≤ csum l := by
   intro l
   induction l with
   | nil => exact Rat.le_refl
   | cons p l ih =>
    have := zbw p.2
    show 0 ≤ (p.2 : Rat) + csum l
    grind
  have := key (kids ws cs)
  grind
 rw [if_neg h6] at h5
 obtain ⟨_, a, _, b, c⟩ := fillE_good h5
 exact ⟨a, b, c⟩
theorem csum_app : ∀ a b : List (Nat × Nat), csum (a ++ b) = csum a + csum b
 | [], b => (Rat.zero_add _).symm
 | p :: a, b => by
  have ih := csum_app a b
  show (p.2 : Rat) + csum (a ++ b) = (p.2 : Rat) + csum a + csum b
  rw [ih, Rat.add_assoc]
theorem rowV {W : World} {base : Nat} {v : Value} {m : List (Nat × Nat)} (h : W.ownsRow base 90 2 v m.length (kCells m)) (hm : m.length ≤ 1000) {P : Nat → Prop} (hP : ∀ k, base ≤ k → P k) (b : Nat) : Kd.V k90 90 W b P v (m.map chOf) := by
 have hl : (m.map chOf).length = m.length := List.length_map ..
 rcases h.2 with ⟨rfl, h0⟩ | ⟨g, cap, cur, rfl, hg1, hg2, hg3, hg4, hg5⟩
 ·
  have : m = [] := List.eq_nil_of_length_eq_zero h0
  subst this
  exact Kd.V_nil _ _ _ _ _
 ·
  refine ⟨some ⟨g, 0, none⟩, cap, by rw [hl], by rw [hl]; exact hg3, fun W' hW' => ⟨rfl, by rw [hl]; omega, fun _ => ⟨_, rfl, fun j p hj => ?_⟩⟩⟩
  have hjl : j < m.length := by
   have := (List.getElem?_eq_some_iff.1 hj).1
   omega
  rw [List.getElem?_map, List.getElem?_eq_getElem hjl] at hj
  obtain rfl : chOf m[j] = p := by simpa using hj
  refine ⟨[.int .i64 (m[j].1 : Int), .int .i64 (m[j].2 : Int)], rfl, k90_mk W' (chOf m[j]), fun i u hu => ?_⟩
  have hW : ∀ q, W'.cell? ⟨g, q, none⟩ = W.cell? ⟨g, q, none⟩ := fun q => by
   have := hW' g (hP g hg1) (zaw hg2)
   unfold World.cell?
   rw [this]
  match i, hu with
  | 0, hu =>
   rw [add_plain, hW]
   rw [show k90.sz = 2 from rfl, Nat.add_zero, h.cellAt (j * 2) (by omega), kCells_get hjl]
   exact hu
  | 1, hu =>
   rw [add_plain, hW]
   rw [show k90.sz = 2 from rfl, h.cellAt (j * 2 + 1) (by omega), kCells_get1 hjl]
   exact hu
theorem row_keep {W W' : World} {base : Nat} {e : TypeId} {size : Nat} {v : Value} {n : Nat} {xs : List Value} (h : W.ownsRow base e size v n xs) (hb : Below W.heap.size W W') : W'.ownsRow base e size v n xs := by
 obtain ⟨h1, h2 | ⟨g, cap, cur, h3, h4, h5, h6⟩⟩ := h
 ·
  exact ⟨h1, .inl h2⟩
 ·
  exact ⟨h1, .inr ⟨g, cap, cur, h3, h4, (hb.block g (zaw h5)).trans h5, h6⟩⟩
theorem ch_err {x : Rat} {ws cs : List Int} {r1 : List S90} {r2 e : Int} (hV : chV x ws cs = (r1, r2)) (he : fillE x ws cs = e) (h0 : e ≠ 0) : r1 = [] ∧ r2 = e := by
 unfold chV at hV
 rw [if_neg (by rw [he]; exact h0), he] at hV
 injection hV with h1 h2
 exact ⟨h1.symm, h2.symm⟩
theorem ch_ok {x : Rat} {ws cs : List Int} {r1 : List S90} {r2 : Int} (hV : chV x ws cs = (r1, r2)) (he : fillE x ws cs = 0) : r1 = (kids ws cs).map chOf ∧ r2 = 0 := by
 unfold chV at hV
 rw [if_pos he] at hV
 injection hV with h1 h2
 exact ⟨h1.symm, h2.symm⟩
theorem children_ok (A0_0 : Option Addr) (c0_0 : Nat) (l0_0 : List Int) (A0_1 : Option Addr) (c0_1 : Nat) (l0_1 : List Int) (A1 : Option Addr) (c1 : Nat) (l1 : List Int) (A2 : Option Addr) (c2 : Nat) (l2 : List Int) (r1 : List (S90)) (r2 : Int) (w : World) (hr0_0 : Kd.C (Kd.int .u64) w A0_0 l0_0.length l0_0) (hc0_0 : l0_0.length ≤ c0_0) (hr0_1 : Kd.C (Kd.int .u64) w A0_1 l0_1.length l0_1) (hc0_1 : l0_1.length ≤ c0_1) (hr1 : Kd.C (Kd.int .i64) w A1 l1.length l1) (hr2 : Kd.C (Kd.int .i64) w A2 l2.length l2) (h : chF l0_0 l0_1 l1 l2 = some (r1, r2)) :
  Calls Tryz.prog 38 #[.agg #[.slice A0_0 l0_0.length c0_0, .slice A0_1 l0_1.length c0_1], .slice A1 l1.length c1, .slice A2 l2.length c2] w fun e w' => ∃ v0_ : Value, e = .returned (.tuple #[v0_, .int .i64 r2]) ∧ Kd.V k90 90 w' w.heap.size (fun k_ => (w.heap.size ≤ k_)) v0_ r1 ∧ Below w.heap.size w w' := by
 obtain ⟨x, hx, rfl, rfl, hlw, hlc, hv⟩ := chF_of h
 have HRt : Aside0 (Rt w A0_0 c0_0 (rN x) A0_1 c0_1 (rD x)) := ⟨hc0_0, hr0_0, hc0_1, hr0_1⟩
 have HW := Aside0.mk (IntsC.of hr1)
 have HC := Aside0.mk (IntsC.of hr2)
 have HV := Aside0.mk hv
 have HX := Aside0.mk hx
 have HLW := Aside0.mk hlw
 have HLC := Aside0.mk hlc
 clear h hv hr0_0 hc0_0 hr0_1 hc0_1 hr1 hr2 hx hlw hlc
 obtain ⟨n1, hn1⟩ : ∃ n, l1.length = n := ⟨_, rfl⟩
 obtain ⟨n2, hn2⟩ : ∃ n, l2.length = n := ⟨_, rfl⟩
 rw [hn1, hn2]
 have HN1 := Aside0.mk hn1
 have HN2 := Aside0.mk hn2
 clear hn1 hn2
 obtain ⟨na, hna⟩ : ∃ n, (rN x).length = n := ⟨_, rfl⟩
 obtain ⟨nb, hnb⟩ : ∃ n, (rD x).length = n := ⟨_, rfl⟩
 rw [hna, hnb]
 have HNA := Aside0.mk hna
 have HNB := Aside0.mk hnb
 clear hna hnb
 go_enter Tryz.func38, Tryz.ntmps38
 go_wp2_with fail
 have hB1 : Below w.heap.size w (w.alloc (.cells #[.slice A0_0 na c0_0, .slice A0_1 nb c0_1] 29)) := (Below.refl _ w).alloc (Nat.le_refl _) _
 have hbk1 := zdl w (.cells #[.slice A0_0 na c0_0, .slice A0_1 nb c0_1] 29)
 have hs1 : (w.alloc (.cells #[.slice A0_0 na c0_0, .slice A0_1 nb c0_1] 29)).heap.size = w.heap.size + 1 := by simp
 have HR1 := Aside0.mk (HRt.out.below hB1)
 generalize w.alloc (.cells #[.slice A0_0 na c0_0, .slice A0_1 nb c0_1] 29) = w1 at hB1 hbk1 hs1 HR1 ⊢
 have hG := t_Good HR1.out HX.out (by omega)
 rw [HNA.out, HNB.out] at hG
 refine hG.mono ?_
 clear hG
 rintro e w2 ⟨rfl, hb⟩
 have HB1 := Aside0.mk hB1
 have HS1 := Aside0.mk hs1
 have HBK := Aside0.mk ((hb.block _ (by omega)).trans hbk1)
 have HB2 : Aside0 (Below w.heap.size w w2) := ⟨hB1.trans (hb.mono (by omega))⟩
 have HS2 : Aside0 (w.heap.size + 1 ≤ w2.heap.size) := ⟨by have := hb.size; omega⟩
 have HR2 := Aside0.mk (HR1.out.below hb)
 have HW2 := Aside0.mk (HW.out.keep HB2.out)
 have HC2 := Aside0.mk (HC.out.keep HB2.out)
 clear hb hB1 hbk1 hs1
 by_cases e1 : n1 = n2
 ·
  have d1 : ((n1 : Int) != (n2 : Int)) = false := by simp [e1]
  have HE1 : Aside0 (l1.length = l2.length) := ⟨by rw [HN1.out, HN2.out, e1]⟩
  by_cases e2 : 32 < n1
  ·
   have d2 : decide ((n1 : Int) > 32) = true := decide_eq_true (by omega)
   have HE2 := Aside0.mk (ch_err HV.out (fe2 HE1.out (by rw [HN1.out]; exact e2)) (by decide))
   clear e1
   go_wp2_with fail
   go_ret2
   obtain ⟨rfl, rfl⟩ := HE2.out
   exact ⟨_, rfl, Kd.V_nil _ _ _ _ _, HB2.out⟩
  ·
   have d2 : decide ((n1 : Int) > 32) = false := decide_eq_false (by omega)
   have HE2 : Aside0 (¬ 32 < l1.length) := ⟨by rw [HN1.out]; exact e2⟩
   have HNE := Aside0.mk e1
   have HN32 := Aside0.mk e2
   clear e1 e2
   go_wp2_with fail
   have hct := contains_ok 70 odd_enters oddW oddW_ok A1 c1 l1 HLW.out w2 HW2.out
   rw [HN1.out] at hct
   refine hct.mono ?_
   clear hct
   rintro e w3 ⟨rfl, rfl⟩
   cases hodd : l1.any oddW
   ·
    have HOD := Aside0.mk hodd
    clear hodd
    go_wp2_with fail
    have hct := contains_ok 71 out_enters outC outC_ok A2 c2 l2 HLC.out w3 HC2.out
    rw [HN2.out] at hct
    refine hct.mono ?_
    clear hct
    rintro e w4 ⟨rfl, rfl⟩
    cases hout : l2.any outC
    ·
     have HOU := Aside0.mk hout
     clear hout
     go_wp2_with fail
     have hmax : 1000 ≤ maxLen := by decide
     obtain ⟨i0, hi, hz0, hz1, hz2⟩ := info_parts child_info
     have HG := Aside0.mk (kids_good HE1.out HE2.out HOD.out HOU.out)
     obtain ⟨K, hK⟩ : ∃ K, kids l1 l2 = K := ⟨_, rfl⟩
     have HKK := Aside0.mk hK
     have HKL : Aside0 (K.length = n1) := ⟨by rw [← hK, kids_length HE1.out, HN1.out]⟩
     clear hK
     go_loopg [10, 11, 39] n1 (fun gk v10 v11 v39 w' => ∃ i : Nat, v39 = .int .i64 (i : Int) ∧ Aside0 (i + gk = n1) ∧ (∃ s : Nat, v11 = .int .i64 (s : Int) ∧ Aside0 (s ≤ 64 * i ∧ csum (K.take i) = (s : Rat))) ∧ Aside0 (w'.ownsRow (w.heap.size + 1) 90 2 v10 i (kCells (K.take i))) ∧ Aside0 (Below (w.heap.size + 1) w4 w'))
     case atStart => exact ⟨0, rfl, ⟨by omega⟩, ⟨0, rfl, ⟨by omega, rfl⟩⟩, ⟨World.ownsRow_nil _ _ _ _⟩, ⟨Below.refl _ _⟩⟩
     case round =>
      obtain ⟨i, rfl, HI, ⟨s, rfl, HS⟩, HO, HBW⟩ := hrel
      have HBr : Aside0 (Below w.heap.size w wr) := ⟨HB2.out.trans (HBW.out.mono (Nat.le_succ _))⟩
      have HSr : Aside0 (w.heap.size + 1 ≤ wr.heap.size) := ⟨Nat.le_trans HS2.out HBW.out.size⟩
      cases gk with
      | zero =>
       obtain rfl : i = n1 := by have := HI.out; omega
       have d3 : decide ((i : Int) < (i : Int)) = false := decide_eq_false (by omega)
       have HRr := Aside0.mk (HRt.out.below HBr.out)
       have HBKr : Aside0 (wr.heap[w.heap.size]? = some (.cells #[.slice A0_0 na c0_0, .slice A0_1 nb c0_1] 29 (0, 0))) := ⟨(HBW.out.block _ (Nat.lt_succ_self _)).trans HBK.out⟩
       have hlim := HN32.out
       have hsl := HS.out.1
       have hfull : K.take i = K := List.take_of_length_le (by rw [HKL.out]; exact Nat.le_refl _)
       rw [hfull] at HO HS
       have HHS : Aside0 (∀ W, Below wr.heap.size wr W → W.cell? ⟨w.heap.size, 0, none⟩ = some (.slice A0_0 na c0_0) ∧ W.cell? ⟨w.heap.size, 1, none⟩ = some (.slice A0_1 nb c0_1)) := ⟨fun W hb => by
        have hk := (hb.block _ (zaw HBKr.out)).trans HBKr.out
        exact ⟨(zac hk 0).trans rfl, (zac hk 1).trans rfl⟩⟩
       have HCM : Aside0 (∀ W A c A' c', Below wr.heap.size wr W → Rt W A c (rN ((s : Nat) : Rat)) A' c' (rD ((s : Nat) : Rat)) → Calls Tryz.prog 17 #[.agg #[.slice A0_0 na c0_0, .slice A0_1 nb c0_1], .agg #[.slice A (rN ((s : Nat) : Rat)).length c, .slice A' (rD ((s : Nat) : Rat)).length c']] W fun e w' => e = .returned (.int .i64 (cmpR x (s : Rat))) ∧ Below W.heap.size W w') := ⟨fun W A c A' c' hb hR => by
        have hC := t_Cmp (HRr.out.below hb) hR HX.out (bdN (x := s) (by omega)) (by omega)
        rw [HNA.out, HNB.out] at hC
        exact hC⟩
       have hsb : (s : Int) < 9223372036854775808 := by omega
       have HTI := Aside0.mk (t_Int (s : Int) hsb)
       rw [Int.toNat_natCast] at HTI
       clear hlim hsl hfull hsb
       go_wp2_with fail
       go_region_held3 (fun W => W.cell? ⟨w.heap.size, 0, none⟩ = some (.slice A0_0 na c0_0) ∧ W.cell? ⟨w.heap.size, 1, none⟩ = some (.slice A0_1 nb c0_1)) (((with_reducible refine HHS.out _ ?_); first | (with_reducible exact HBw6.out) | (with_reducible exact HBw5.out) | (with_reducible exact (Below.refl _ wr).drew))) (first
        | (go_at_call 18; refine (HTI.out _).mono ?_; rintro e w5 ⟨A5, c5, A6, c6, rfl, hR5, hb5⟩; have HR5 := Aside0.mk hR5.rt; have HBw5 : Aside0 (Below wr.heap.size wr w5) := ⟨((Below.refl wr.heap.size wr).drew).trans hb5⟩; clear hR5 hb5)
        | (go_at_call 17; refine (HCM.out _ _ _ _ _ HBw5.out HR5.out).mono ?_; rintro e w6 ⟨rfl, hb6⟩; have HBw6 : Aside0 (Below wr.heap.size wr w6) := ⟨zab HBw5.out hb6⟩; clear hb6))
       have HO6 := Aside0.mk (row_keep HO.out HBw6.out)
       have HB6 : Aside0 (Below w.heap.size w w6) := ⟨zab HBr.out HBw6.out⟩
       have h5 := fe5 (x := x) HE1.out HE2.out HOD.out HOU.out
       rw [HKK.out] at h5
       generalize hcq : cmpR x (s : Rat) = cq
       by_cases hlt : csum K < x
       ·
        have d6 : decide (cq > 0) = true := decide_eq_true (by rw [← hcq]; exact cmpR_pos.2 (by rw [← HS.out.2]; exact hlt))
        clear hcq
        rw [if_pos hlt] at h5
        have HE3 := Aside0.mk (ch_err HV.out h5 (by decide))
        clear h5 hlt d1 d2 d3
        go_wp2_with fail
        all_goals first | (exfalso; first | (have h_ := of_decide_eq_true d6; omega) | (have h_ := of_decide_eq_false d6; omega)) | skip
        go_ret2
        obtain ⟨rfl, rfl⟩ := HE3.out
        exact ⟨_, rfl, Kd.V_nil _ _ _ _ _, HB6.out⟩
       ·
        have d6 : decide (cq > 0) = false := decide_eq_false (by rw [← hcq]; exact cmpR_le (by rw [← HS.out.2]; exact Rat.not_lt.1 hlt))
        clear hcq
        rw [if_neg hlt] at h5
        have HE3 := Aside0.mk (ch_ok HV.out h5)
        clear h5 hlt d1 d2 d3
        go_wp2_with fail
        all_goals first | (exfalso; first | (have h_ := of_decide_eq_true d6; omega) | (have h_ := of_decide_eq_false d6; omega)) | skip
        go_ret2
        obtain ⟨rfl, rfl⟩ := HE3.out
        rw [HKK.out]
        have hrw := HO6.out
        rw [← HKL.out] at hrw
        exact ⟨_, rfl, rowV hrw (by rw [HKL.out]; have := HN32.out; omega) (fun k hk => by omega) _, HB6.out⟩
      | succ g1 =>
       have hil : i < n1 := by have := HI.out; omega
       have d3 : decide ((i : Int) < (n1 : Int)) = true := decide_eq_true (by omega)
       have hi1 : i < l1.length := by rw [HN1.out]; exact hil
       have hi2 : i < l2.length := by rw [HN2.out, ← HNE.out]; exact hil
       have hiK : i < K.length := by rw [HKL.out]; exact hil
       obtain ⟨ad1, rfl, cw⟩ := HW.out i hi1
       obtain ⟨ad2, rfl, cc⟩ := HC.out i hi2
       obtain ⟨p, hp⟩ : ∃ p, K[i] = p := ⟨_, rfl⟩
       have hg1 : l1.getD i 0 = (p.1 : Int) := by
        have h1 := HG.out.2.1
        rw [HKK.out] at h1
        rw [h1, List.getD_eq_getElem?_getD, List.getElem?_map, List.getElem?_eq_getElem hiK, hp]
        rfl
       have hg2 : l2.getD i 0 = (p.2 : Int) := by
        have h1 := HG.out.2.2
        rw [HKK.out] at h1
        rw [h1, List.getD_eq_getElem?_getD, List.getElem?_map, List.getElem?_eq_getElem hiK, hp]
        rfl
       rw [hg1] at cw
       rw [hg2] at cc
       have hpg : 1 ≤ p.1 ∧ p.1 ≤ 10000 ∧ p.2 ≤ 64 := by
        have h1 := HG.out.1
        rw [HKK.out] at h1
        rw [← hp]
        exact h1.2 _ (List.getElem_mem hiK)
       have htk : K.take (i + 1) = K.take i ++ [p] := by rw [List.take_succ_eq_append_getElem hiK, hp]
       have HTK := Aside0.mk htk
       have HPG := Aside0.mk hpg
       have HCC := Aside0.mk cc
       have q1 : wr.cell? (ad1.add i) = some (.int .i64 (p.1 : Int)) := (HBr.out.cell (block_lt_of_cell cw)).trans cw
       have q2 : wr.cell? (ad2.add i) = some (.int .i64 (p.2 : Int)) := (HBr.out.cell (block_lt_of_cell cc)).trans cc
       have d4 : 0 ≤ (i : Int) ∧ (i : Int) < (n1 : Int) := by omega
       have d5 : 0 ≤ (i : Int) ∧ (i : Int) < (n2 : Int) := by have := HNE.out; omega
       have hform : ∃ A c, u10 = .slice A i c := by
        rcases HO.out.2 with ⟨rfl, h0⟩ | ⟨g, cap, cur, rfl, _⟩
        ·
         exact ⟨none, 0, by rw [h0]⟩
        ·
         exact ⟨_, _, rfl⟩
       obtain ⟨A9, c9, rfl⟩ := hform
       have HI2 : Aside0 (i < 32) := ⟨by have := HN32.out; omega⟩
       clear hpg htk hp hg1 hg2 cw cc hi1 hi2 hiK
       go_wp2_with (first
        | ((with_reducible refine zbx (b := .append) (xs := #[.tmp 44, .tmp 51]) rfl ?_); at_builtin; refine wpList_append_own_at _ rfl _ _ 85 rfl (w.heap.size + 1) 90 i0 (.agg #[.int .i64 0, .int .i64 0]) 2 16 Tryz.underlying85 hi hz0 hz1 hz2 rfl (by decide) _ _ _ rfl (HO.out.alloc _) ⟨wr.heap.size, 0, none⟩ 1 1 [.int .i64 (p.1 : Int), .int .i64 (p.2 : Int)] rfl rfl (two_new _ _ _ _) (by simp [Value.oneCell']) (by have := HI2.out; omega) (by have := HI2.out; omega) (by have := HSr.out; simp; omega) ?_; intro v' w5 hown' hgrow _ _; have hb5 : Below (w.heap.size + 1) w4 w5 := ((HBW.out.alloc (by have := HSr.out; have := HS2.out; omega) _).grown hgrow (by have := HSr.out; simp; omega) (fun j ej => (HO.out.lt j ej).1)); have q5 : w5.cell? (ad2.add i) = some (.int .i64 (p.2 : Int)) := ((HB2.out.trans (hb5.mono (Nat.le_succ _))).cell (block_lt_of_cell HCC.out)).trans HCC.out; have HO5 := Aside0.mk hown'; have HB5 := Aside0.mk hb5; clear hown' hgrow hb5))
       have e1 : wrap64 ((i : Int) + 1) = ((i + 1 : Nat) : Int) := by have := HI2.out; unfold wrap64; omega
       have e2 : wrap64 ((s : Int) + (p.2 : Int)) = ((s + p.2 : Nat) : Int) := by have := HI2.out; have := HPG.out; have := HS.out.1; unfold wrap64; omega
       have e3 : s + p.2 ≤ 64 * (i + 1) ∧ csum (K.take (i + 1)) = ((s + p.2 : Nat) : Rat) := by
        have h1 := HPG.out
        have h2 := HS.out.1
        refine ⟨by omega, ?_⟩
        rw [HTK.out, csum_app, HS.out.2, Rat.natCast_add]
        exact congrArg _ (Rat.add_zero _)
       have E1 := Aside0.mk e1
       have E2 := Aside0.mk e2
       have E3 := Aside0.mk e3
       have E4 : Aside0 (w5.ownsRow (w.heap.size + 1) 90 2 v' (i + 1) (kCells (K.take (i + 1)))) := ⟨by rw [HTK.out, kCells_app]; exact HO5.out⟩
       clear e1 e2 e3
       go_roundg g1
       case rel => exact ⟨i + 1, by rw [E1.out], ⟨by have := HI.out; omega⟩, ⟨s + p.2, by rw [E2.out], E3⟩, E4, HB5⟩
       case measure => omega
    ·
     have HE3 := Aside0.mk (ch_err HV.out (fe4 HE1.out HE2.out HOD.out hout) (by decide))
     clear hout
     go_wp2_with fail
     go_ret2
     obtain ⟨rfl, rfl⟩ := HE3.out
     exact ⟨_, rfl, Kd.V_nil _ _ _ _ _, HB2.out⟩
   ·
    have HE3 := Aside0.mk (ch_err HV.out (fe3 HE1.out HE2.out hodd) (by decide))
    clear hodd
    go_wp2_with fail
    go_ret2
    obtain ⟨rfl, rfl⟩ := HE3.out
    exact ⟨_, rfl, Kd.V_nil _ _ _ _ _, HB2.out⟩
 ·
  have d1 : ((n1 : Int) != (n2 : Int)) = true := by simp; omega
  have HE2 := Aside0.mk (ch_err HV.out (fe1 (by rw [HN1.out, HN2.out]; exact e1)) (by decide))
  clear e1
  go_wp2_with fail
  go_ret2
  obtain ⟨rfl, rfl⟩ := HE2.out
  exact ⟨_, rfl, Kd.V_nil _ _ _ _ _, HB2.out⟩
end Go.Proofs.YthiicmanfpmipaaGreatDoor.P
end
section
namespace Go.Proofs.YthiicmanfpmipaaGreatDoor.P
open Go.RowKit Go.Proofs.YthiicmanfpmipaaGreatDoorW.PrintWords Go.Proofs.YthiicmanfpmipaaGreatDoorW.PrintLast Go.Proofs.YthiicmanfpmipaaGreatDoorW.PrintMore
attribute [local go_sem] zci zcj zcs zcr zb9 zca zcg zch
def zc0.f (k : Nat) (l0_0 l0_1 l1 l2 : List Int) : Option ((List (S90)) × Int) := chF l0_0 l0_1 l1 l2
theorem zc0.calls (k : Nat) (A0_0 : Option Addr) (c0_0 : Nat) (l0_0 : List Int) (A0_1 : Option Addr) (c0_1 : Nat) (l0_1 : List Int) (A1 : Option Addr) (c1 : Nat) (l1 : List Int) (A2 : Option Addr) (c2 : Nat) (l2 : List Int) (r1 : List (S90)) (r2 : Int) (w : World) (hr0_0 : Kd.C (Kd.int .u64) w A0_0 l0_0.length l0_0) (hc0_0 : l0_0.length ≤ c0_0) (hr0_1 : Kd.C (Kd.int .u64) w A0_1 l0_1.length l0_1) (hc0_1 : l0_1.length ≤ c0_1) (hr1 : Kd.C (Kd.int .i64) w A1 l1.length l1) (hc1 : l1.length ≤ c1) (hr2 : Kd.C (Kd.int .i64) w A2 l2.length l2) (hc2 : l2.length ≤ c2) (h : zc0.f k l0_0 l0_1 l1 l2 = some (r1, r2)) :
  Calls Tryz.prog 38 #[.agg #[.slice A0_0 l0_0.length c0_0, .slice A0_1 l0_1.length c0_1], .slice A1 l1.length c1, .slice A2 l2.length c2] w fun e w' => ∃ v0_ : Value, e = .returned (.tuple #[v0_, .int .i64 r2]) ∧ Kd.V k90 90 w' w.heap.size (fun k_ => (w.heap.size ≤ k_)) v0_ r1 ∧ Below w.heap.size w w' :=
 children_ok A0_0 c0_0 l0_0 A0_1 c0_1 l0_1 A1 c1 l1 A2 c2 l2 r1 r2 w hr0_0 hc0_0 hr0_1 hc0_1 hr1 hr2 h
end Go.Proofs.YthiicmanfpmipaaGreatDoor.P
end
