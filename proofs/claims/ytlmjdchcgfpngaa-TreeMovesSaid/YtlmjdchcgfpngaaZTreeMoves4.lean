-- Written by a program of this session (wip/tools/shake.py) out of its own texts and of the kit's printed ones; not trusted: Lean checks it.
import Derived.Test.YtlmjdchcgfpngaaZTreeMoves3
set_option maxHeartbeats 8000000
set_option maxRecDepth 100000
set_option linter.unusedVariables false
set_option linter.unusedSimpArgs false
section
namespace Go.Proofs.Ytlmjdchcgfpngaa.P
open Go.RowKit Go.Proofs.YtlmjdchcgfpngaaW.PrintWords Go.Proofs.YtlmjdchcgfpngaaW.PrintLast Go.Proofs.YtlmjdchcgfpngaaW.PrintMore
attribute [local go_sem] zbo zbq zbz zbx zbi zbg zbr zbp
def Wr (S : Nat → Prop) (w w' : World) : Prop := Below 0 w w' ∧ ∀ i, i < w.heap.size → ¬ S i → w'.heap[i]? = w.heap[i]?
theorem Wr.of_below {S : Nat → Prop} {w w' : World} (h : Below w.heap.size w w') : Wr S w w' := ⟨h.mono (Nat.zero_le _), fun i hi _ => h.block i hi⟩
theorem Wr.refl (S : Nat → Prop) (w : World) : Wr S w w := Wr.of_below (Below.refl _ _)
theorem Wr.size {S : Nat → Prop} {w w' : World} (h : Wr S w w') : w.heap.size ≤ w'.heap.size := h.1.size
theorem Wr.mono {S S' : Nat → Prop} {w w' : World} (h : Wr S w w') (hs : ∀ k, S k → S' k) : Wr S' w w' := ⟨h.1, fun i hi hn => h.2 i hi fun hk => hn (hs i hk)⟩
theorem Wr.trans {S S2 : Nat → Prop} {w w1 w2 : World} (h : Wr S w w1) (h2 : Wr S2 w1 w2) (hs : ∀ k, S2 k → S k ∨ w.heap.size ≤ k) : Wr S w w2 :=
 ⟨h.1.trans h2.1, fun i hi hn => (h2.2 i (Nat.lt_of_lt_of_le hi h.size) fun hk => (hs i hk).elim hn (fun h => by omega)).trans (h.2 i hi hn)⟩
theorem Wr.step {S : Nat → Prop} {w w1 w2 : World} (h : Wr S w w1) (hb : Below w1.heap.size w1 w2) : Wr S w w2 := h.trans (Wr.of_below (S := fun _ => False) hb) fun _ hk => hk.elim
theorem Wr.set {S : Nat → Prop} {w w1 : World} (h : Wr S w w1) {p : Addr} (hp : S p.block ∨ w.heap.size ≤ p.block) (u : Value) : Wr S w (w1.setCell p u) :=
 ⟨h.1.setCell (Nat.zero_le _) u, fun i hi hn => by
  rw [Below.heap_setCell _ _ _ _ (fun e => by subst e; exact hp.elim hn fun h => by omega)]
  exact h.2 i hi hn⟩
theorem Wr.drew {S : Nat → Prop} {w w1 : World} (h : Wr S w w1) : Wr S w w1.drew := ⟨h.1.drew, h.2⟩
theorem Wr.turned {S : Nat → Prop} {w w1 w2 : World} {m : Nat} (h : Wr S w w1) (ht : w1.mapTurned w2 m) (hm : S m ∨ w.heap.size ≤ m) : Wr S w w2 :=
 ⟨h.1.trans (mapTurned_below ht (Nat.zero_le _)), fun i hi hn => by
  obtain ⟨es, clock, es', clock', hb, rfl⟩ := ht
  rw [ChangeMaps.heap_setBlock_other hb _ (fun e => by subst e; exact hm.elim hn fun h => by omega)]
  exact h.2 i hi hn⟩
theorem Wr.below {S : Nat → Prop} {w w' : World} (h : Wr S w w') {n : Nat} (hn : n ≤ w.heap.size) (hs : ∀ k, S k → n ≤ k) : Below n w w' :=
 ⟨h.1.os, h.1.tape, h.1.output, h.1.size, fun k hk => h.2 k (by omega) fun hx => by have := hs k hx; omega⟩
theorem fan_ok {w : World} {b : Nat} {x0 x1 x2 x4 x5 : Value} {m g : Int} (h : w.heap[b]? = some (.cells #[x0, x1, x2, .int .i64 m, x4, x5, .int .i64 g] 71 (0, 0))) (hs : 0 ≤ m ∧ m < 100000 ∧ 0 ≤ g ∧ g < 100000) :
  Calls Try.prog 26 #[.pointer (some ⟨b, 0, none⟩)] w fun e w' => e = .returned (.int .i64 (g + m)) ∧ Below w.heap.size w w' := by
 have c3 : w.cell? ⟨b, 3, none⟩ = some (.int .i64 m) := (za h 3).trans rfl
 have c6 : w.cell? ⟨b, 6, none⟩ = some (.int .i64 g) := (za h 6).trans rfl
 have wl : wrap64 (g + m) = g + m := w64s (by omega) (by omega)
 clear h
 go_enter Try.func26, Try.ntmps26
 go_wp2_with fail
 go_quiet (fail)
 go_wp2
 go_ret
 exact ⟨by simp [wl], zbc (Below.refl _ _) _⟩
def Upd (more : Int) (w w' : World) (b : Nat) : Prop := ∀ x0 x1 x2 x3 x4 a x6, w.heap[b]? = some (.cells #[x0, x1, x2, x3, x4, .int .i64 a, x6] 71 (0, 0)) → w'.heap[b]? = some (.cells #[x0, x1, x2, x3, x4, .int .i64 (a + more), x6] 71 (0, 0))
theorem count_ok {w : World} {bs : List Nat} {more : Int} (h : PathAt w bs) (hl : bs.length ≤ 1000) (hn : bs.Nodup)
  (ha : ∀ b ∈ bs, ∃ x0 x1 x2 x3 x4 a x6, w.heap[b]? = some (.cells #[x0, x1, x2, x3, x4, .int .i64 a, x6] 71 (0, 0)) ∧ -1000000 < a + more ∧ a + more < 1000000) :
  Calls Try.prog 30 #[ptrO bs.head?, .int .i64 more] w fun e w' => e = .returned (.tuple #[]) ∧ (∀ b ∈ bs, Upd more w w' b) ∧ Wr (fun k => k ∈ bs) w w' := by
 have H := Aside0.mk h
 have HA := Aside0.mk ha
 have HN := Aside0.mk hn
 clear h ha hn
 go_enter Try.func30, Try.ntmps30
 go_wp2_with fail
 go_at_call 25
 refine (path_ok H.out hl).mono ?_
 rintro e w1 ⟨v, rfl, hr, hb1⟩
 obtain ⟨A, c, rfl, hc, hC⟩ := kp_V hr
 have HR := Aside0.mk hr
 have HB := Aside0.mk hb1
 clear hr hC hb1
 go_wp2_with fail
 go_loopg [9] bs.length (fun gk v9 w' => ∃ i : Nat, v9 = .int .i64 (i : Int) ∧ i + gk = bs.length ∧ Aside0 (kp.R 64 w' w.heap.size (fun k => w.heap.size ≤ k) (.slice A bs.length c) bs) ∧ Aside0 (∀ b ∈ bs.take i, Upd more w w' b) ∧ Aside0 (∀ b ∈ bs.drop i, w'.heap[b]? = w.heap[b]?) ∧ Aside0 (Wr (fun k => k ∈ bs) w w'))
 case atStart => exact ⟨0, by go_num, by omega, HR, ⟨fun b hb => by simp at hb⟩, ⟨fun b hb => HB.out.block b (H.out.lt b (List.mem_of_mem_drop hb))⟩, ⟨Wr.of_below HB.out⟩⟩
 case round =>
  obtain ⟨i, rfl, hi, HR1, HU, HD, HW⟩ := hrel
  cases gk with
  | zero =>
   have d1 : decide ((i : Int) < (bs.length : Int)) = false := decide_eq_false (by omega)
   go_wp2_with fail
   refine bodyPost_end (results_none (by kernel_rfl) _ _ _) rfl ?_
   refine ⟨rfl, ?_, HW.out⟩
   have := HU.out
   rw [List.take_of_length_le (by omega)] at this
   exact this
  | succ g1 =>
   have d1 : decide ((i : Int) < (bs.length : Int)) = true := decide_eq_true (by omega)
   have d3 : 0 ≤ (i : Int) ∧ (i : Int) < (bs.length : Int) := by omega
   have hil : i < bs.length := by omega
   obtain ⟨_, _, e1, _, hC⟩ := kp_V HR1.out
   cases e1
   obtain ⟨ad, rfl, hx⟩ := kp_at hC i hil
   rw [List.getD_eq_getElem?_getD, List.getElem?_eq_getElem hil, Option.getD_some] at hx
   have hmem : bs[i] ∈ bs := List.getElem_mem hil
   have hdr := HD.out
   rw [List.drop_eq_getElem_cons hil] at hdr
   obtain ⟨x0, x1, x2, x3, x4, a, x6, hw0, hlo, hhi⟩ := HA.out _ hmem
   have hwr := (hdr _ List.mem_cons_self).trans hw0
   have hnt : bs[i] ∉ bs.take i ∧ bs[i] ∉ bs.drop (i + 1) := by
    have h1 := HN.out
    have h2 : bs = bs.take i ++ bs[i] :: bs.drop (i + 1) := by rw [← List.drop_eq_getElem_cons hil, List.take_append_drop]
    rw [h2, List.nodup_append] at h1
    exact ⟨fun hm => h1.2.2 _ hm _ List.mem_cons_self rfl, (List.nodup_cons.1 h1.2.1).1⟩
   have htk : bs.take (i + 1) = bs.take i ++ [bs[i]] := List.take_succ_eq_append_getElem hil
   have hblt : bs[i] < w.heap.size := H.out.lt _ hmem
   generalize bs[i] = b at hx hdr hw0 hwr hnt htk hblt hmem
   have c5 : wr.cell? ⟨b, 5, none⟩ = some (.int .i64 a) := (za hwr 5).trans rfl
   have f5 := zaa hwr 5
   have wl : wrap64 (a + more) = a + more := w64s (by omega) (by omega)
   have hput : (wr.setCell ⟨b, 5, none⟩ (.int .i64 (a + more))).heap[b]? = some (.cells #[x0, x1, x2, x3, x4, .int .i64 (a + more), x6] 71 (0, 0)) := zau hwr 5 _ rfl
   have HR2 := Aside0.mk (Kd.R_far (p := ⟨b, 5, none⟩) HR1.out (fun k hk => by show k ≠ b; omega) (.int .i64 (a + more)))
   have HW2 : Aside0 (Wr (fun k => k ∈ bs) w (wr.setCell ⟨b, 5, none⟩ (.int .i64 (a + more)))) := ⟨HW.out.set (.inl hmem) _⟩
   have HU2 : Aside0 (∀ q ∈ bs.take (i + 1), Upd more w (wr.setCell ⟨b, 5, none⟩ (.int .i64 (a + more))) q) := ⟨fun q hq => by
    rw [htk] at hq
    rcases List.mem_append.1 hq with hq | hq
    ·
     intro y0 y1 y2 y3 y4 y y6 hy
     rw [Below.heap_setCell _ _ _ _ (fun e => by cases e; exact hnt.1 hq)]
     exact HU.out q hq _ _ _ _ _ _ _ hy
    ·
     obtain rfl := List.mem_singleton.1 hq
     intro y0 y1 y2 y3 y4 y y6 hy
     rw [hw0] at hy
     cases hy
     exact hput⟩
   have HD2 : Aside0 (∀ q ∈ bs.drop (i + 1), (wr.setCell ⟨b, 5, none⟩ (.int .i64 (a + more))).heap[q]? = w.heap[q]?) := ⟨fun q hq => by
    rw [Below.heap_setCell _ _ _ _ (fun e => by cases e; exact hnt.2 hq)]
    exact hdr q (List.mem_cons_of_mem _ hq)⟩
   clear hC hmem hdr hw0 hwr hnt htk hput
   go_wp2_with fail
   have hgi : i + 1 + g1 = bs.length := by omega
   have wi : wrap64 ((i : Int) + 1) = (i : Int) + 1 := w64s (by omega) (by omega)
   go_roundg g1
   case measure => exact Nat.lt_succ_self _
   case rel => exact ⟨i + 1, by go_num, hgi, HR2, HU2, HD2, HW2⟩
def Only (b s : Nat) (w w' : World) : Prop := w.heap.size ≤ w'.heap.size ∧ ∀ i, i < w.heap.size → i ≠ b → i ≠ s → w'.heap[i]? = w.heap[i]?
theorem Only.of_below {b s : Nat} {w w' : World} (h : Below w.heap.size w w') : Only b s w w' := ⟨h.size, fun i hi _ _ => h.block i hi⟩
theorem Only.set1 {b s : Nat} {w w' : World} (h : Only b s w w') (i : Nat) (v : Value) : Only b s w (w'.setCell ⟨b, i, none⟩ v) :=
 ⟨by rw [World.size_setCell]; exact h.1, fun j hj h1 h2 => by rw [Below.heap_setCell _ _ _ _ h1]; exact h.2 j hj h1 h2⟩
theorem Only.set2 {b s : Nat} {w w' : World} (h : Only b s w w') (i : Nat) (v : Value) : Only b s w (w'.setCell ⟨s, i, none⟩ v) :=
 ⟨by rw [World.size_setCell]; exact h.1, fun j hj h1 h2 => by rw [Below.heap_setCell _ _ _ _ h2]; exact h.2 j hj h1 h2⟩
theorem MapAt.only {α : Type} {P : Program} {kt : TypeId} {mk : α → Value} {w w' : World} {b s c n : Nat} {g : Int → Option α} (h : MapAt P kt mk w c n g) (ho : Only b s w w') (h1 : c ≠ b) (h2 : c ≠ s) : MapAt P kt mk w' c n g := by
 have hl := h.lt
 obtain ⟨D, ⟨es, clock, h3, h4⟩, hd⟩ := h
 exact ⟨D, ⟨es, clock, (ho.2 c hl h1 h2).trans h3, h4⟩, hd⟩
theorem table_Add_only {w : World} {b s : Nat} {l : List Int} {last : Int} (k i : Nat) (h : TabAt w b s l last) (hi : i < l.length) (hx : zal.f k l 0 = some (i : Int)) (h0 : 0 ≤ last) (h1 : last < 2147483648) :
  Calls Try.prog 50 #[.pointer (some ⟨b, 0, none⟩)] w fun e w' => e = .returned (.tuple #[.int .i64 (last + 1), .int .i64 (i : Int), .int .i64 0]) ∧ TabAt w' b s (l.set i (last + 1)) (last + 1) ∧ (∀ n, n ≤ b → n ≤ s → Below n w w') ∧ Only b s w w' := by
 have H := Aside0.mk h
 have HX := Aside0.mk hx
 obtain ⟨f0, f1, f2, f3⟩ := h.facts
 have d1 : decide ((i : Int) < 0) = false := decide_eq_false (by omega)
 have d2 : (last == 2147483648) = false := by simpa using (show last ≠ 2147483648 by omega)
 clear h hx f3
 go_enter Try.func50, Try.ntmps50
 go_wp2_with fail
 go_at_call 62
 refine (zal.calls k _ _ l 0 _ _ H.out.mem (Nat.le_refl _) HX.out).mono ?_
 rintro e w1 ⟨rfl, hd⟩
 have B1 := Aside0.mk hd.below
 have H1 := Aside0.mk (H.out.keep B1.out)
 obtain ⟨g0, g1, g2, g3⟩ := H1.out.facts
 clear hd f0 f1 f2 g3
 go_wp2_with fail
 have H2 := Aside0.mk (H1.out.push (last + 1))
 have B2 : Aside0 (∀ n, n ≤ b → n ≤ s → Below n w (w1.setCell ⟨b, 1, none⟩ (.int .i64 (last + 1)))) := ⟨fun n hb hs => (B1.out.mono (by have := H.out.lt; omega)).setCell hb _⟩
 have O2 : Aside0 (Only b s w (w1.setCell ⟨b, 1, none⟩ (.int .i64 (last + 1)))) := ⟨(Only.of_below B1.out).set1 _ _⟩
 generalize w1.setCell ⟨b, 1, none⟩ (.int .i64 (last + 1)) = W2 at H2 B2 O2 ⊢
 clear g0 g1 g2
 obtain ⟨g0, g1, g2, g3⟩ := H2.out.facts
 have g4 := g3 i
 clear g3
 have g5 := H2.out.slot hi
 go_region
 have H3 := Aside0.mk (H2.out.set i (last + 1)).drew
 have B3 : Aside0 (∀ n, n ≤ b → n ≤ s → Below n w (W2.setCell ⟨s, i, none⟩ (.int .i64 (last + 1))).drew) := ⟨fun n hb hs => ((B2.out n hb hs).setCell hs _).drew⟩
 have O3 : Aside0 (Only b s w (W2.setCell ⟨s, i, none⟩ (.int .i64 (last + 1))).drew) := ⟨O2.out.set2 _ _⟩
 generalize (W2.setCell ⟨s, i, none⟩ (.int .i64 (last + 1))).drew = W3 at H3 B3 O3 ⊢
 clear g0 g1 g2 g4 g5
 obtain ⟨g0, g1, g2, g3⟩ := H3.out.facts
 clear g3
 go_wp2
 go_ret3
 exact ⟨by simp, H3.out, B3.out, O3.out⟩
theorem table_Drop_only {w : World} {b s : Nat} {l : List Int} {last : Int} (k i : Nat) (x : Int) (h : TabAt w b s l last) (hi : i < l.length) (hx0 : x ≠ 0) (hx : zal.f k l x = some (i : Int)) :
  Calls Try.prog 57 #[.pointer (some ⟨b, 0, none⟩), .int .i64 x] w fun e w' => e = .returned (.int .i64 0) ∧ TabAt w' b s (l.set i 0) last ∧ (∀ n, n ≤ b → n ≤ s → Below n w w') ∧ Only b s w w' := by
 have H := Aside0.mk h
 have HX := Aside0.mk hx
 clear h hx
 go_enter Try.func57, Try.ntmps57
 go_wp2_with fail
 go_at_call 75
 refine (table_Slot_ok k (i : Int) x H.out HX.out (by omega) hx0).mono ?_
 rintro e w1 ⟨rfl, hd⟩
 have B1 := Aside0.mk hd.below
 have H1 := Aside0.mk (H.out.drawn hd)
 obtain ⟨g0, g1, g2, g3⟩ := H1.out.facts
 have g4 := g3 i
 have g5 := H1.out.slot hi
 clear hd g3
 go_wp2_with fail
 go_ret
 exact ⟨rfl, H1.out.set i 0, fun n hb hs => (B1.out.mono (by have := H.out.lt; omega)).setCell hs _, (Only.of_below B1.out).set2 _ _⟩
theorem Wr.of_only {b s : Nat} {w w' : World} (h1 : ∀ n, n ≤ b → n ≤ s → Below n w w') (h2 : Only b s w w') : Wr (fun k => k = b ∨ k = s) w w' :=
 ⟨h1 0 (Nat.zero_le _) (Nat.zero_le _), fun i hi hn => h2.2 i hi (fun e => hn (.inl e)) fun e => hn (.inr e)⟩
theorem tabF_AddW {w : World} {b s room : Nat} {last : Int} {ids : List Int} (h : TabF w b s room last ids) (hl : ids.length < room) (h0 : 0 ≤ last ∧ last < 2147483648) :
  Calls Try.prog 50 #[.pointer (some ⟨b, 0, none⟩)] w fun e w' => ∃ i : Nat, e = .returned (.tuple #[.int .i64 (last + 1), .int .i64 (i : Int), .int .i64 0]) ∧ TabF w' b s room (last + 1) (ids ++ [last + 1]) ∧ Wr (fun k => k = b ∨ k = s) w w' := by
 obtain ⟨l, ht, hlen, hp⟩ := h
 have h64 := ht.2.2.2
 rcases index_any (l := l) 0 (by omega) with ⟨i, k, hi, hx, hk⟩ | ⟨k, hk, hn⟩
 ·
  refine (table_Add_only k i ht hi hk h0.1 h0.2).mono ?_
  rintro e w' ⟨rfl, ht', hb, ho⟩
  refine ⟨i, rfl, ⟨_, ht', by rw [List.length_set]; exact hlen, ?_⟩, Wr.of_only hb ho⟩
  exact (filter_set l i _ hi hx (by omega)).trans ((List.Perm.cons _ hp).trans (List.perm_append_singleton _ _).symm)
 ·
  exfalso
  have := hp.length_eq
  rw [List.filter_eq_self.2 (fun x hx => by
   obtain ⟨j, hj, e⟩ := List.getElem_of_mem hx
   have := hn j hj
   rw [List.getD_eq_getElem?_getD, List.getElem?_eq_getElem hj] at this
   simpa [← e] using this)] at this
  omega
theorem tabF_DropW {w : World} {b s room : Nat} {last : Int} {ids : List Int} {x : Int} (h : TabF w b s room last ids) (hn : ids.Nodup) (hx : x ∈ ids) (h0 : x ≠ 0) :
  Calls Try.prog 57 #[.pointer (some ⟨b, 0, none⟩), .int .i64 x] w fun e w' => e = .returned (.int .i64 0) ∧ TabF w' b s room last (ids.filter fun y => !(y == x)) ∧ Wr (fun k => k = b ∨ k = s) w w' := by
 obtain ⟨l, ht, hlen, hp⟩ := h
 have h64 := ht.2.2.2
 have hm : x ∈ l := (List.mem_filter.1 (hp.mem_iff.2 hx)).1
 rcases index_any (l := l) x (by omega) with ⟨i, k, hi, hxi, hk⟩ | ⟨k, hk, hno⟩
 ·
  refine (table_Drop_only k i x ht hi h0 hk).mono ?_
  rintro e w' ⟨rfl, ht', hb, ho⟩
  refine ⟨rfl, ⟨_, ht', by rw [List.length_set]; exact hlen, ?_⟩, Wr.of_only hb ho⟩
  have h1 := filter_set (l.set i 0) i x (by rw [List.length_set]; exact hi) (by simp [hi]) h0
  rw [← hxi, set_set_self l i hi, hxi] at h1
  have h2 := (h1.symm.trans hp).filter fun y => !(y == x)
  rw [List.filter_cons, if_neg (by simp)] at h2
  refine List.Perm.trans (List.Perm.of_eq ?_) h2
  refine (List.filter_eq_self.2 fun y hy => ?_).symm
  have hnd : (x :: (l.set i 0).filter fun y => !(y == 0)).Nodup := (h1.symm.trans hp).nodup_iff.2 hn
  have := (List.nodup_cons.1 hnd).1
  simp
  rintro rfl
  exact this hy
 ·
  exfalso
  obtain ⟨j, hj, e⟩ := List.getElem_of_mem hm
  have := hno j hj
  rw [List.getD_eq_getElem?_getD, List.getElem?_eq_getElem hj] at this
  exact this (by simpa using e)
def setG (L : List S84) (id : Int) (h : S84 → S84) : List S84 := L.map fun g => if g.f0 = id then h g else g
theorem setG_len (L : List S84) (id : Int) (h : S84 → S84) : (setG L id h).length = L.length := List.length_map _
theorem setG_f0 {id : Int} {h : S84 → S84} (h0 : ∀ g, (h g).f0 = g.f0) (g : S84) : (if g.f0 = id then h g else g).f0 = g.f0 := by
 split
 ·
  exact h0 g
 ·
  rfl
theorem setG_ids {L : List S84} {id : Int} {h : S84 → S84} (h0 : ∀ g, (h g).f0 = g.f0) : (setG L id h).map (·.f0) = L.map (·.f0) := by
 unfold setG
 rw [List.map_map]
 exact List.map_congr_left fun g _ => setG_f0 h0 g
theorem Asc.setG {L : List S84} {id : Int} {h : S84 → S84} (h0 : ∀ g, (h g).f0 = g.f0) (hA : Asc L) : Asc (setG L id h) := by
 unfold Asc P.setG
 rw [List.pairwise_map]
 exact hA.imp fun {a b} hab => by rw [setG_f0 h0, setG_f0 h0]; exact hab
theorem fnd_setG {id : Int} {h : S84 → S84} (h0 : ∀ g, (h g).f0 = g.f0) : ∀ (L : List S84) (x : Int), fnd (setG L id h) x = (fnd L x).map fun g => if g.f0 = id then h g else g
 | [], _ => rfl
 | a :: L, x => by
  have ih := fnd_setG (id := id) h0 L x
  unfold fnd setG at ih ⊢
  rw [List.map_cons, List.find?_cons, List.find?_cons, setG_f0 h0]
  split
  ·
   rfl
  ·
   exact ih
theorem prt_setG {L : List S84} {id : Int} {h : S84 → S84} (h0 : ∀ g, (h g).f0 = g.f0) (h1 : ∀ g, (h g).f1 = g.f1) : prt (setG L id h) = prt L := by
 funext x
 unfold prt
 rw [fnd_setG h0, Option.map_map]
 cases fnd L x with
 | none => rfl
 | some g =>
  simp only [Option.map_some, Function.comp]
  split
  ·
   rw [h1]
  ·
   rfl
theorem kid_setG {L : List S84} {id : Int} {h : S84 → S84} (h1 : ∀ g, (h g).f1 = g.f1) (x : Int) : kid (setG L id h) x = kid L x := by
 unfold kid setG
 rw [List.filter_map, List.length_map]
 congr 2
 refine List.filter_congr fun g _ => ?_
 simp only [Function.comp]
 split
 ·
  rw [h1]
 ·
  rfl
theorem sum_setG {h : S84 → S84} (F : S84 → Int) : ∀ {L : List S84} {g : S84}, Asc L → g ∈ L → ((setG L g.f0 h).map F).sum = (L.map F).sum + (F (h g) - F g)
 | [], _, _, hg => by cases hg
 | a :: L, g, hA, hg => by
  obtain ⟨h1, h2⟩ := List.pairwise_cons.1 hA
  unfold setG
  rw [List.map_cons, List.map_cons, List.sum_cons, List.map_cons, List.sum_cons]
  rcases List.mem_cons.1 hg with rfl | hg
  ·
   rw [if_pos rfl]
   have : (L.map fun y => if y.f0 = g.f0 then h y else y) = L := by
    rw [List.map_congr_left (g := id)]
    ·
     simp
    ·
     intro y hy
     have := h1 y hy
     rw [if_neg (by omega)]
     rfl
   rw [this]
   omega
  ·
   have := h1 g hg
   rw [if_neg (by omega)]
   have ih := sum_setG (h := h) F h2 hg
   unfold setG at ih
   rw [ih]
   omega
theorem act_setG {L : List S84} {g : S84} {h : S84 → S84} (h0 : ∀ g, (h g).f0 = g.f0) (h1 : ∀ g, (h g).f1 = g.f1) (hA : Asc L) (hg : g ∈ L) (x : Int) :
  act (setG L g.f0 h) x = act L x + if x ∈ way L g.f0 then (h g).f4 - g.f4 else 0 := by
 have hw : ∀ id, way (setG L g.f0 h) id = way L id := fun id => way_congr (prt_setG h0 h1) id
 unfold act
 simp only [hw]
 rw [sum_setG (fun y => if x ∈ way L y.f0 then y.f4 else 0) hA hg]
 rw [h0]
 split <;> omega
theorem mem_setG {L : List S84} {id : Int} {h : S84 → S84} {y : S84} (hy : y ∈ setG L id h) : ∃ g ∈ L, y = if g.f0 = id then h g else g := by
 obtain ⟨g, hg, e⟩ := List.mem_map.1 hy
 exact ⟨g, hg, e.symm⟩
theorem GoodF.setG {room : Nat} {last : Int} {L : List S84} {g : S84} {h : S84 → S84} (hG : GoodF room last L) (hg : g ∈ L) (h0 : ∀ g, (h g).f0 = g.f0) (h1 : ∀ g, (h g).f1 = g.f1)
  (h2 : 1 ≤ (h g).f2 ∧ (h g).f2 ≤ 10000) (h3 : 0 ≤ (h g).f4) (h4 : (h g).f4 ≤ (h g).f3) (h5 : kid L g.f0 + (h g).f3 ≤ 32) : GoodF room last (P.setG L g.f0 h) := by
 obtain ⟨e1, e2, e3, e4, e5, e6⟩ := hG
 refine ⟨e1, by rw [setG_len]; exact e2, e3, e4, e5.setG h0, fun y hy => ?_⟩
 obtain ⟨z, hz, rfl⟩ := mem_setG hy
 have hp := prt_setG (L := L) (id := g.f0) h0 h1
 have hz' := e6 z hz
 unfold GoodG at hz' ⊢
 rw [setG_f0 h0, hp, kid_setG h1]
 by_cases e : z.f0 = g.f0
 ·
  obtain rfl := e5.inj hz hg e
  rw [if_pos rfl, h1]
  exact ⟨hz'.1, hz'.2.1, hz'.2.2.1, hz'.2.2.2.1, h2, h3, h4, h5⟩
 ·
  rw [if_neg e]
  exact hz'
theorem fnd_app {L : List S84} {a : S84} (hn : fnd L a.f0 = none) (x : Int) : fnd (L ++ [a]) x = if x = a.f0 then some a else fnd L x := by
 unfold fnd at hn ⊢
 rw [List.find?_append]
 by_cases e : x = a.f0
 ·
  rw [if_pos e, e, hn]
  simp
 ·
  rw [if_neg e]
  have : (a.f0 == x) = false := beq_eq_false_iff_ne.mpr fun h => e h.symm
  simp [this]
theorem Ch.app {L : List S84} {a : S84} (hn : fnd L a.f0 = none) {c : List Int} {id : Int} (h : Ch (prt L) c id) : Ch (prt (L ++ [a])) c id := by
 refine h.congr fun x hx => ?_
 obtain ⟨p, hp⟩ := h.has hx
 unfold prt
 rw [fnd_app hn, if_neg]
 rintro rfl
 unfold prt at hp
 rw [hn] at hp
 cases hp
theorem way_mem {L : List S84} {c : List Int} {id x : Int} (h : Ch (prt L) c id) (hx : x ∈ c) : ∃ g ∈ L, g.f0 = x := by
 obtain ⟨p, hp⟩ := h.has hx
 obtain ⟨g, hg, e, _⟩ := prt_some hp
 exact ⟨g, hg, e⟩
theorem fnd_fresh {room : Nat} {last : Int} {L : List S84} (hG : GoodF room last L) {x : Int} (hx : last < x) : fnd L x = none := by
 cases h : fnd L x with
 | none => rfl
 | some g =>
  obtain ⟨h1, h2⟩ := za5 h
  have := (hG.2.2.2.2.2 g h1).2.1
  omega
theorem par_in {room : Nat} {last : Int} {L : List S84} (hG : GoodF room last L) {g : S84} (hg : g ∈ L) (h : 0 ≤ g.f1) : ∃ p ∈ L, p.f0 = g.f1 := by
 obtain ⟨_, _, _, ⟨c, hc, _⟩, _⟩ := hG.2.2.2.2.2 g hg
 have h0 := (hG.2.2.2.2.2 g hg).1
 obtain ⟨c', rfl⟩ := hc.head (by omega)
 obtain ⟨_, _, p, hp, h1⟩ := hc
 rw [prt_mem hG.2.2.2.2.1 hg] at hp
 cases hp
 obtain ⟨c2, rfl⟩ := h1.head h
 exact way_mem h1 List.mem_cons_self
theorem act_app {room : Nat} {last : Int} {L : List S84} (hG : GoodF room last L) {a : S84} (hn : fnd L a.f0 = none) (h4 : a.f4 = 0) (x : Int) : act (L ++ [a]) x = act L x := by
 unfold act
 rw [List.map_append, List.sum_append]
 have h1 : (L.map fun g => if x ∈ way (L ++ [a]) g.f0 then g.f4 else 0) = L.map fun g => if x ∈ way L g.f0 then g.f4 else 0 := by
  refine List.map_congr_left fun g hg => ?_
  obtain ⟨hc, _⟩ := hG.way hg
  rw [way_eq (Ch.app hn hc)]
 rw [h1]
 simp [h4]
theorem kid_app (L : List S84) (a : S84) (x : Int) : kid (L ++ [a]) x = kid L x + if a.f1 = x then 1 else 0 := by
 unfold kid
 rw [List.filter_append, List.length_append]
 by_cases e : a.f1 = x
 ·
  simp [e]
 ·
  simp [e]
theorem kid_zero {L : List S84} {x : Int} (h : ∀ g ∈ L, g.f1 ≠ x) : kid L x = 0 := by
 unfold kid
 rw [List.filter_eq_nil_iff.2 fun g hg => by simpa using h g hg]
 rfl
theorem act_fresh {room : Nat} {last : Int} {L : List S84} (hG : GoodF room last L) {x : Int} (hx : last < x) : act L x = 0 := by
 unfold act
 have : (L.map fun g => if x ∈ way L g.f0 then g.f4 else 0) = L.map fun _ => 0 := by
  refine List.map_congr_left fun g hg => ?_
  rw [if_neg]
  intro hm
  obtain ⟨y, hy, e⟩ := way_mem (hG.way hg).1 hm
  have := (hG.2.2.2.2.2 y hy).2.1
  omega
 rw [this]
 clear this hG
 induction L with
 | nil => rfl
 | cons a L ih => rw [List.map_cons, List.sum_cons, ih]; rfl
theorem kid_fresh {room : Nat} {last : Int} {L : List S84} (hG : GoodF room last L) {x : Int} (hx : last < x) : kid L x = 0 := by
 refine kid_zero fun g hg e => ?_
 have h1 := hG.2.2.1
 obtain ⟨p, hp, e2⟩ := par_in hG hg (by omega)
 have := (hG.2.2.2.2.2 p hp).2.1
 omega
theorem Ch.new {L : List S84} {a : S84} (hn : fnd L a.f0 = none) (h0 : 0 ≤ a.f0) {c : List Int} (hc : Ch (prt L) c a.f1) : Ch (prt (L ++ [a])) (a.f0 :: c) a.f0 := by
 refine ⟨rfl, h0, a.f1, ?_, Ch.app hn hc⟩
 unfold prt
 rw [fnd_app hn, if_pos rfl]
 rfl
theorem GoodF.app {room : Nat} {last : Int} {L : List S84} {p wt : Int} (hG : GoodF room last L) (hl : L.length < room) (h9 : last < 99999) (hw : 1 ≤ wt ∧ wt ≤ 10000)
  (hp : p = -1 ∨ ∃ g ∈ L, g.f0 = p ∧ (P.way L p).length < 8 ∧ kid L p + g.f3 < 32) : GoodF room (last + 1) (L ++ [⟨last + 1, p, wt, 0, 0⟩]) := by
 have hn : fnd L (last + 1) = none := fnd_fresh hG (by omega)
 have hG' := hG
 obtain ⟨e1, e2, e3, e4, e5, e6⟩ := hG
 refine ⟨e1, by rw [List.length_append, List.length_singleton]; omega, by omega, by omega, ?_, fun y hy => ?_⟩
 ·
  refine List.pairwise_append.2 ⟨e5, List.pairwise_singleton _ _, fun x hx y hy => ?_⟩
  obtain rfl := List.mem_singleton.1 hy
  have := (e6 x hx).2.1
  dsimp only
  omega
 ·
  rcases List.mem_append.1 hy with hy | hy
  ·
   obtain ⟨g1, g2, g3, ⟨c, hc, hcl⟩, g5, g6, g7, g8⟩ := e6 y hy
   refine ⟨g1, by omega, g3, ⟨c, hc.app hn, hcl⟩, g5, g6, g7, ?_⟩
   rw [kid_app]
   dsimp only
   split
   ·
    rename_i e
    rcases hp with rfl | ⟨g, hg, e2, _, h2⟩
    ·
     omega
    ·
     obtain rfl := e5.inj hg hy (e2.trans e)
     rw [← e] at *
     omega
   ·
    omega
  ·
   obtain rfl := List.mem_singleton.1 hy
   have hk : kid (L ++ [⟨last + 1, p, wt, 0, 0⟩]) (last + 1) = 0 := by
    rw [kid_app, kid_fresh hG' (by omega)]
    dsimp only
    rw [if_neg]
    ·
     rfl
    ·
     rcases hp with rfl | ⟨g, hg, e, _⟩
     ·
      omega
     ·
      have := (e6 g hg).2.1
      omega
   refine ⟨by dsimp only; omega, Int.le_refl _, ?_, ?_, hw, Int.le_refl _, Int.le_refl _, by dsimp only; rw [hk]; decide⟩
   ·
    rcases hp with rfl | ⟨g, hg, rfl, _⟩
    ·
     exact .inl rfl
    ·
     exact .inr (e6 g hg).1
   ·
    rcases hp with rfl | ⟨g, hg, rfl, h1, _⟩
    ·
     exact ⟨[last + 1], Ch.new (a := ⟨last + 1, -1, wt, 0, 0⟩) hn (by dsimp only; omega) (c := []) (show (-1 : Int) < 0 by omega), by simp⟩
    ·
     exact ⟨(last + 1) ::  P.way L g.f0, Ch.new (a := ⟨last + 1, g.f0, wt, 0, 0⟩) hn (by dsimp only; omega) (hG'.way hg).1, by rw [List.length_cons]; omega⟩
theorem Ch.mid {pr : Int → Option Int} : ∀ {c : List Int} {id x : Int}, Ch pr c id → x ∈ c → x ≠ id → ∃ y ∈ c, pr y = some x
 | [], _, _, _, h, _ => by cases h
 | y :: c, id, x, h, hx, hne => by
  obtain ⟨rfl, h0, p, hp, h1⟩ := h
  rcases List.mem_cons.1 hx with rfl | hx
  ·
   exact absurd rfl hne
  ·
   by_cases e : x = p
   ·
    exact ⟨y, List.mem_cons_self, by rw [e]; exact hp⟩
   ·
    obtain ⟨z, hz, h2⟩ := Ch.mid h1 hx e
    exact ⟨z, List.mem_cons_of_mem _ hz, h2⟩
theorem kid_pos {L : List S84} {g : S84} (hg : g ∈ L) : 0 < kid L g.f1 := by
 unfold kid
 have : 0 < (L.filter fun y => y.f1 == g.f1).length := List.length_pos_of_mem (List.mem_filter.2 ⟨hg, by simp⟩)
 omega
def delG (L : List S84) (id : Int) : List S84 := L.filter fun y => !(y.f0 == id)
theorem fnd_del : ∀ (L : List S84) (id x : Int), fnd (delG L id) x = if x = id then none else fnd L x
 | [], _, x => by simp [fnd, delG]
 | a :: L, id, x => by
  have ih := fnd_del L id x
  unfold fnd delG at ih ⊢
  rw [List.filter_cons]
  by_cases e : a.f0 = id
  ·
   rw [if_neg (by simp [e]), ih]
   split
   ·
    rfl
   ·
    rename_i h
    rw [List.find?_cons]
    have : (a.f0 == x) = false := beq_eq_false_iff_ne.mpr (by omega)
    rw [this]
  ·
   rw [if_pos (by simp [e]), List.find?_cons, List.find?_cons, ih]
   by_cases e2 : a.f0 = x
   ·
    have : (a.f0 == x) = true := beq_iff_eq.mpr e2
    rw [this]
    dsimp only
    rw [if_neg (by omega)]
   ·
    have : (a.f0 == x) = false := beq_eq_false_iff_ne.mpr e2
    rw [this]
theorem way_leaf {room : Nat} {last : Int} {L : List S84} (hG : GoodF room last L) {id : Int} (hk : kid L id = 0) {y : S84} (hy : y ∈ L) (hne : y.f0 ≠ id) : id ∉ way L y.f0 := by
 intro hm
 obtain ⟨z, hz, h1⟩ := (hG.way hy).1.mid hm fun e => hne e.symm
 obtain ⟨q, hq, _, e⟩ := prt_some h1
 have := kid_pos hq
 rw [e] at this
 omega
theorem Ch.del {L : List S84} {id : Int} {c : List Int} {x : Int} (h : Ch (prt L) c x) (hn : id ∉ c) : Ch (prt (delG L id)) c x := by
 refine h.congr fun y hy => ?_
 unfold prt
 rw [fnd_del, if_neg fun (e : y = id) => hn (e ▸ hy)]
theorem mem_del {L : List S84} {id : Int} {y : S84} : y ∈ delG L id ↔ y ∈ L ∧ y.f0 ≠ id := by
 unfold delG
 rw [List.mem_filter]
 simp
theorem kid_del {L : List S84} (hA : Asc L) {g : S84} (hg : g ∈ L) (x : Int) : kid (delG L g.f0) x = kid L x - if g.f1 = x then 1 else 0 := by
 induction L with
 | nil => cases hg
 | cons a L ih =>
  obtain ⟨h1, h2⟩ := List.pairwise_cons.1 hA
  rcases List.mem_cons.1 hg with rfl | hg
  ·
   have hd : delG (g :: L) g.f0 = L := by
    unfold delG
    rw [List.filter_cons, if_neg (by simp)]
    refine List.filter_eq_self.2 fun y hy => ?_
    have := h1 y hy
    simp
    omega
   rw [hd]
   unfold kid
   rw [List.filter_cons]
   by_cases e : g.f1 = x
   ·
    rw [if_pos e, if_pos (by simp [e]), List.length_cons]
    omega
   ·
    rw [if_neg e, if_neg (by simp [e])]
    omega
  ·
   have := h1 g hg
   have ih := ih h2 hg
   unfold kid delG at ih ⊢
   rw [List.filter_cons, if_pos (by simp; omega), List.filter_cons, List.filter_cons]
   split
   ·
    rw [List.length_cons, List.length_cons]
    omega
   ·
    exact ih
theorem sum_del (F : S84 → Int) : ∀ {L : List S84} {g : S84}, Asc L → g ∈ L → F g = 0 → ((delG L g.f0).map F).sum = (L.map F).sum
 | [], _, _, hg, _ => by cases hg
 | a :: L, g, hA, hg, h0 => by
  obtain ⟨h1, h2⟩ := List.pairwise_cons.1 hA
  unfold delG
  rw [List.filter_cons]
  rcases List.mem_cons.1 hg with rfl | hg
  ·
   rw [if_neg (by simp), List.map_cons, List.sum_cons, h0, Int.zero_add]
   rw [List.filter_eq_self.2 fun y hy => by have := h1 y hy; simp; omega]
  ·
   have := h1 g hg
   rw [if_pos (by simp; omega), List.map_cons, List.map_cons, List.sum_cons, List.sum_cons]
   have ih := sum_del F h2 hg h0
   unfold delG at ih
   rw [ih]
theorem act_del {room : Nat} {last : Int} {L : List S84} (hG : GoodF room last L) {g : S84} (hg : g ∈ L) (hk : kid L g.f0 = 0) (h4 : g.f4 = 0) (x : Int) : act (delG L g.f0) x = act L x := by
 unfold act
 have h1 : ((delG L g.f0).map fun y => if x ∈ way (delG L g.f0) y.f0 then y.f4 else 0) = (delG L g.f0).map fun y => if x ∈ way L y.f0 then y.f4 else 0 := by
  refine List.map_congr_left fun y hy => ?_
  obtain ⟨hy1, hy2⟩ := mem_del.1 hy
  rw [way_eq (Ch.del (hG.way hy1).1 (way_leaf hG hk hy1 hy2))]
 rw [h1]
 refine sum_del (fun y => if x ∈ way L y.f0 then y.f4 else 0) hG.2.2.2.2.1 hg ?_
 show (if x ∈ way L g.f0 then g.f4 else 0) = 0
 split
 ·
  exact h4
 ·
  rfl
theorem GoodF.del {room : Nat} {last : Int} {L : List S84} (hG : GoodF room last L) {g : S84} (hg : g ∈ L) (hk : kid L g.f0 = 0) : GoodF room last (delG L g.f0) := by
 have hG' := hG
 obtain ⟨e1, e2, e3, e4, e5, e6⟩ := hG
 refine ⟨e1, Nat.le_trans (List.length_filter_le _ _) e2, e3, e4, e5.filter _, fun y hy => ?_⟩
 obtain ⟨hy1, hy2⟩ := mem_del.1 hy
 obtain ⟨g1, g2, g3, ⟨c, hc, hcl⟩, g5, g6, g7, g8⟩ := e6 y hy1
 refine ⟨g1, g2, g3, ⟨c, hc.del ?_, hcl⟩, g5, g6, g7, ?_⟩
 ·
  rw [← way_eq hc]
  exact way_leaf hG' hk hy1 hy2
 ·
  rw [kid_del e5 hg]
  split <;> omega
theorem del_ids (L : List S84) (id : Int) : (delG L id).map (·.f0) = (L.map (·.f0)).filter fun y => !(y == id) := by
 unfold delG
 rw [List.filter_map]
 rfl
def movG (L : List S84) (id p : Int) : List S84 := setG L id fun g => { g with f1 := p }
theorem prt_mov {L : List S84} {id p x : Int} (h : x ≠ id) : prt (movG L id p) x = prt L x := by
 unfold prt movG
 rw [fnd_setG (h := fun g => { g with f1 := p }) fun _ => rfl, Option.map_map]
 cases hf : fnd L x with
 | none => rfl
 | some g =>
  simp only [Option.map_some, Function.comp]
  rw [if_neg]
  rw [(za5 hf).2]
  exact h
theorem prt_mov_self {L : List S84} {id p : Int} {g : S84} (h : fnd L id = some g) : prt (movG L id p) id = some p := by
 unfold prt movG
 rw [fnd_setG (h := fun g => { g with f1 := p }) fun _ => rfl, h]
 simp only [Option.map_some]
 rw [if_pos (za5 h).2]
theorem Ch.mov_far {L : List S84} {id p : Int} {c : List Int} {x : Int} (h : Ch (prt L) c x) (hn : id ∉ c) : Ch (prt (movG L id p)) c x :=
 h.congr fun y hy => prt_mov fun e => hn (e ▸ hy)
theorem Ch.prepend {pr pr' : Int → Option Int} : ∀ {c1 d : List Int} {x y : Int} {d' : List Int}, Ch pr (c1 ++ y :: d) x → (∀ z ∈ c1, pr' z = pr z) → Ch pr' (y :: d') y → Ch pr' (c1 ++ y :: d') x
 | [], d, x, y, d', h, _, h' => by
  obtain ⟨rfl, _⟩ := h
  exact h'
 | z :: c1, d, x, y, d', h, he, h' => by
  obtain ⟨rfl, h0, p, hp, h1⟩ := h
  exact ⟨rfl, h0, p, (he z List.mem_cons_self).trans hp, Ch.prepend h1 (fun z hz => he z (List.mem_cons_of_mem _ hz)) h'⟩
theorem way_mov {room : Nat} {last : Int} {L : List S84} (hG : GoodF room last L) {g q y : S84} (hg : g ∈ L) (hq : q ∈ L) (hy : y ∈ L) (h0 : 0 ≤ g.f1) (hnl : g.f0 ∉ way L q.f0) :
  (g.f0 ∉ way L y.f0 ∧ Ch (prt (movG L g.f0 q.f0)) (way L y.f0) y.f0) ∨
  ∃ c1, way L y.f0 = c1 ++ g.f0 :: way L g.f1 ∧ Ch (prt (movG L g.f0 q.f0)) (c1 ++ g.f0 :: way L q.f0) y.f0 ∧
   ∀ x, (x ∈ c1 ∨ x = g.f0) → x ∉ way L g.f1 ∧ x ∉ way L q.f0 := by
 obtain ⟨hcy, _⟩ := hG.way hy
 obtain ⟨hcg, _⟩ := hG.way hg
 obtain ⟨hcq, _⟩ := hG.way hq
 have hgp := (hG.2.2.2.2.2 g hg).1
 by_cases hm : g.f0 ∈ way L y.f0
 ·
  refine .inr ?_
  obtain ⟨c2, hc2⟩ := hcg.head (by omega)
  have hcp : Ch (prt L) c2 g.f1 := by
   rw [hc2] at hcg
   obtain ⟨_, _, p, hp, h1⟩ := hcg
   rw [prt_mem hG.2.2.2.2.1 hg] at hp
   cases hp
   exact h1
  obtain ⟨c1, e1, hn1⟩ := hcy.split hm hcg
  rw [hc2] at e1
  have ew : way L g.f1 = c2 := way_eq hcp
  refine ⟨c1, by rw [ew]; exact e1, ?_, fun x hx => ?_⟩
  ·
   rw [e1] at hcy
   refine hcy.prepend (fun z hz => prt_mov fun e => hn1 (e ▸ hz)) ?_
   exact ⟨rfl, by omega, q.f0, prt_mov_self (fnd_mem hG.2.2.2.2.1 hg), hcq.mov_far hnl⟩
  ·
   have hnd := hcy.nodup
   rw [e1, List.nodup_append] at hnd
   have hnd2 := List.nodup_cons.1 hnd.2.1
   rw [ew]
   constructor
   ·
    rcases hx with hx | rfl
    ·
     exact fun h => hnd.2.2 x hx x (List.mem_cons_of_mem _ h) rfl
    ·
     exact hnd2.1
   ·
    rcases hx with hx | rfl
    ·
     intro h
     obtain ⟨_, d1, d2, e3, hd⟩ := hcy.mem (x := x) (by rw [e1]; exact List.mem_append_left _ hx)
     obtain ⟨_, d3, d4, e4, hd'⟩ := hcq.mem h
     obtain rfl : d4 = d2 := by
      have := Ch.uniq hd hd'
      injection this with _ h
      exact h.symm
     have hg2 : g.f0 ∈ x :: d4 := by
      have hsp := hcy.split (x := x) (d := x :: d4) (by rw [e1]; exact List.mem_append_left _ hx) hd
      obtain ⟨c3, e5, hn3⟩ := hsp
      rw [e1] at e5
      rcases List.append_eq_append_iff.1 e5 with ⟨m, e6, e7⟩ | ⟨m, e6, e7⟩
      ·
       exact absurd (by rw [e6]; exact List.mem_append_left _ hx) hn3
      ·
       rw [e7]
       simp
     exact hnl (by rw [e4]; exact List.mem_append_right _ hg2)
    ·
     exact hnl
 ·
  exact .inl ⟨hm, hcy.mov_far hm⟩
theorem sum_add3 (F F' : S84 → Int) (A : S84 → Int) : ∀ {L : List S84}, (∀ y ∈ L, F' y = F y + A y) → (L.map F').sum = (L.map F).sum + (L.map A).sum
 | [], _ => rfl
 | a :: L, h => by
  rw [List.map_cons, List.map_cons, List.map_cons, List.sum_cons, List.sum_cons, List.sum_cons, h a List.mem_cons_self, sum_add3 F F' A fun y hy => h y (List.mem_cons_of_mem _ hy)]
  omega
theorem sum_mul (F : S84 → Int) (k : Int) : ∀ L : List S84, (L.map fun y => F y * k).sum = (L.map F).sum * k
 | [] => by simp
 | a :: L => by rw [List.map_cons, List.map_cons, List.sum_cons, List.sum_cons, sum_mul F k L, Int.add_mul]
theorem mov_f4 {L : List S84} {id p : Int} (F : Int → Int → Int) : ((movG L id p).map fun y => F y.f0 y.f4) = L.map fun y => F y.f0 y.f4 := by
 unfold movG setG
 rw [List.map_map]
 refine List.map_congr_left fun y _ => ?_
 simp only [Function.comp]
 split <;> rfl
theorem act_mov {room : Nat} {last : Int} {L : List S84} (hG : GoodF room last L) {g q : S84} (hg : g ∈ L) (hq : q ∈ L) (h0 : 0 ≤ g.f1) (hnl : g.f0 ∉ way L q.f0) (x : Int) :
  act (movG L g.f0 q.f0) x = act L x + (if x ∈ way L q.f0 then act L g.f0 else 0) - if x ∈ way L g.f1 then act L g.f0 else 0 := by
 have hk : ∀ k : Int, k = (if x ∈ way L q.f0 then (1 : Int) else 0) - (if x ∈ way L g.f1 then 1 else 0) → act (movG L g.f0 q.f0) x = act L x + act L g.f0 * k := by
  intro k hk
  unfold act
  rw [mov_f4 (fun a b => if x ∈ way (movG L g.f0 q.f0) a then b else 0)]
  rw [sum_add3 (fun y => if x ∈ way L y.f0 then y.f4 else 0) _ (fun y => (if g.f0 ∈ way L y.f0 then y.f4 else 0) * k), sum_mul (fun y => if g.f0 ∈ way L y.f0 then y.f4 else 0)]
  intro y hy
  rcases way_mov hG hg hq hy h0 hnl with ⟨h1, h2⟩ | ⟨c1, h1, h2, h3⟩
  ·
   rw [way_eq h2, if_neg h1, Int.zero_mul, Int.add_zero]
  ·
   rw [way_eq h2, h1, hk]
   have hin : g.f0 ∈ c1 ++ g.f0 :: way L g.f1 := by simp
   rw [if_pos hin]
   simp only [List.mem_append, List.mem_cons]
   by_cases hx : x ∈ c1 ∨ x = g.f0
   ·
    obtain ⟨n1, n2⟩ := h3 x hx
    rw [if_neg n1, if_neg n2, if_pos (hx.elim .inl fun h => .inr (.inl h)), if_pos (hx.elim .inl fun h => .inr (.inl h))]
    omega
   ·
    have e1 : (x ∈ c1 ∨ x = g.f0 ∨ x ∈ way L q.f0) ↔ x ∈ way L q.f0 := ⟨fun h => h.elim (fun h => absurd (.inl h) hx) fun h => h.elim (fun h => absurd (.inr h) hx) fun h => h, fun h => .inr (.inr h)⟩
    have e2 : (x ∈ c1 ∨ x = g.f0 ∨ x ∈ way L g.f1) ↔ x ∈ way L g.f1 := ⟨fun h => h.elim (fun h => absurd (.inl h) hx) fun h => h.elim (fun h => absurd (.inr h) hx) fun h => h, fun h => .inr (.inr h)⟩
    simp only [e1, e2]
    split <;> split <;> omega
 rw [hk _ rfl]
 split <;> split <;> omega
theorem kid_mov {L : List S84} (hA : Asc L) {g : S84} (hg : g ∈ L) (p x : Int) : kid (movG L g.f0 p) x = kid L x + (if p = x then 1 else 0) - if g.f1 = x then 1 else 0 := by
 have key : ∀ M : List S84, ((M.filter fun y => y.f1 == x).length : Int) = (M.map fun y => if y.f1 = x then (1 : Int) else 0).sum := by
  intro M
  induction M with
  | nil => rfl
  | cons a M ih =>
   rw [List.filter_cons, List.map_cons, List.sum_cons, ← ih]
   by_cases e : a.f1 = x
   ·
    rw [if_pos (by simp [e]), if_pos e, List.length_cons]
    omega
   ·
    rw [if_neg (by simp [e]), if_neg e]
    omega
 unfold kid
 rw [key, key]
 unfold movG
 rw [sum_setG (fun y => if y.f1 = x then (1 : Int) else 0) hA hg]
 dsimp only
 omega
theorem GoodF.mov {room : Nat} {last : Int} {L : List S84} (hG : GoodF room last L) {g q : S84} (hg : g ∈ L) (hq : q ∈ L) (h0 : 0 ≤ g.f1) (hnl : g.f0 ∉ P.way L q.f0)
  (hd : ∀ y ∈ L, g.f0 ∈ P.way L y.f0 → ((P.way L y.f0).length : Int) - (P.way L g.f0).length + (P.way L q.f0).length + 1 ≤ 8) (hf : g.f1 ≠ q.f0 → kid L q.f0 + q.f3 < 32) : GoodF room last (movG L g.f0 q.f0) := by
 have hG' := hG
 obtain ⟨e1, e2, e3, e4, e5, e6⟩ := hG
 refine ⟨e1, by unfold movG; rw [setG_len]; exact e2, e3, e4, e5.setG fun _ => rfl, fun z hz => ?_⟩
 obtain ⟨y, hy, hzy⟩ := mem_setG hz
 have hz0 : z.f0 = y.f0 ∧ z.f2 = y.f2 ∧ z.f3 = y.f3 ∧ z.f4 = y.f4 ∧ (z.f1 = y.f1 ∨ z.f1 = q.f0) := by
  rw [hzy]
  split
  ·
   exact ⟨rfl, rfl, rfl, rfl, .inr rfl⟩
  ·
   exact ⟨rfl, rfl, rfl, rfl, .inl rfl⟩
 obtain ⟨z0, z2, z3, z4, z1⟩ := hz0
 obtain ⟨g1, g2, g3, _, g5, g6, g7, g8⟩ := e6 y hy
 unfold GoodG
 rw [z0, z2, z3, z4]
 refine ⟨g1, g2, ?_, ?_, g5, g6, g7, ?_⟩
 ·
  rcases z1 with z1 | z1
  ·
   rw [z1]
   exact g3
  ·
   rw [z1]
   exact .inr (e6 q hq).1
 ·
  rcases way_mov hG' hg hq hy h0 hnl with ⟨_, h2⟩ | ⟨c1, h1, h2, _⟩
  ·
   exact ⟨_, h2, (hG'.way hy).2⟩
  ·
   refine ⟨_, h2, ?_⟩
   have h3 := hd y hy (by rw [h1]; simp)
   have hcg := (hG'.way hg).1
   obtain ⟨c2, hc2⟩ := hcg.head (by have := (e6 g hg).1; omega)
   have ew : P.way L g.f1 = c2 := by
    rw [hc2] at hcg
    obtain ⟨_, _, p, hp, h1⟩ := hcg
    rw [prt_mem e5 hg] at hp
    cases hp
    exact way_eq h1
   rw [h1, hc2, ew] at h3
   simp only [List.length_append, List.length_cons] at h3 ⊢
   omega
 ·
  rw [kid_mov e5 hg]
  by_cases e : q.f0 = y.f0
  ·
   obtain rfl := e5.inj hq hy e
   rw [if_pos rfl]
   by_cases e2 : g.f1 = q.f0
   ·
    rw [if_pos e2]
    omega
   ·
    have := hf e2
    rw [if_neg e2]
    omega
  ·
   rw [if_neg e]
   split <;> omega
def mkP (k : Nat) : Value := .pointer (some ⟨k, 0, none⟩)
theorem mkP_inj : ∀ a b : Nat, mkP a = mkP b → a = b := fun a b h => by
 unfold mkP at h
 injection h with h
 injection h with h
 injection h
def nodeV (x0 : Int) (x1 : Value) (x2 x3 x4 x5 x6 : Int) : Obj := .cells #[.int .i64 x0, x1, .int .i64 x2, .int .i64 x3, .int .i64 x4, .int .i64 x5, .int .i64 x6] 71 (0, 0)
def pOf (nb : Int → Nat) (id : Int) : Value := if id < 0 then .pointer none else .pointer (some ⟨nb id, 0, none⟩)
def NodeAt (w : World) (nb : Int → Nat) (L : List S84) (g : S84) : Prop := w.heap[nb g.f0]? = some (nodeV g.f0 (pOf nb g.f1) g.f2 g.f3 g.f4 (act L g.f0) (kid L g.f0))
def FAt (w : World) (fb tb ts m : Nat) (nb : Int → Nat) (n room : Nat) (last : Int) (L : List S84) : Prop :=
 w.heap[fb]? = some (.cells #[.pointer (some ⟨tb, 0, none⟩), .map (some m)] 62 (0, 0)) ∧ TabF w tb ts room last (L.map (·.f0)) ∧ MapAt Try.prog 3 mkP w m n (fun id => (fnd L id).map fun _ => nb id) ∧ ∀ g ∈ L, NodeAt w nb L g
def FS (fb tb ts m : Nat) (nb : Int → Nat) (L : List S84) (k : Nat) : Prop := k = fb ∨ k = tb ∨ k = ts ∨ k = m ∨ ∃ g ∈ L, k = nb g.f0
section
variable {w w' : World} {fb tb ts m : Nat} {nb : Int → Nat} {n room : Nat} {last : Int} {L : List S84}
theorem FAt.lt (h : FAt w fb tb ts m nb n room last L) {k : Nat} (hk : FS fb tb ts m nb L k) : k < w.heap.size := by
 obtain ⟨h1, h2, h3, h4⟩ := h
 rcases hk with rfl | rfl | rfl | rfl | ⟨g, hg, rfl⟩
 ·
  exact zar h1
 ·
  exact h2.lt.1
 ·
  exact h2.lt.2
 ·
  exact h3.lt
 ·
  exact zar (h4 g hg)
theorem FAt.blocks (h : FAt w fb tb ts m nb n room last L) (he : ∀ k, FS fb tb ts m nb L k → w'.heap[k]? = w.heap[k]?) : FAt w' fb tb ts m nb n room last L := by
 obtain ⟨h1, h2, ⟨D, ⟨es, clock, h3, h3'⟩, h3''⟩, h4⟩ := h
 exact ⟨(he _ (.inl rfl)).trans h1, h2.blocks (he _ (.inr (.inl rfl))) (he _ (.inr (.inr (.inl rfl)))), ⟨D, ⟨es, clock, (he _ (.inr (.inr (.inr (.inl rfl))))).trans h3, h3'⟩, h3''⟩,
  fun g hg => (he _ (.inr (.inr (.inr (.inr ⟨g, hg, rfl⟩))))).trans (h4 g hg)⟩
theorem FAt.keep (h : FAt w fb tb ts m nb n room last L) (hb : Below w.heap.size w w') : FAt w' fb tb ts m nb n room last L := h.blocks fun k hk => hb.block k (h.lt hk)
theorem FAt.facts (h : FAt w fb tb ts m nb n room last L) : w.cell? ⟨fb, 0, none⟩ = some (.pointer (some ⟨tb, 0, none⟩)) ∧ w.cell? ⟨fb, 1, none⟩ = some (.map (some m)) :=
 ⟨(za h.1 0).trans rfl, (za h.1 1).trans rfl⟩
theorem FAt.mono {n' : Nat} (h : FAt w fb tb ts m nb n room last L) (hn : n ≤ n') : FAt w fb tb ts m nb n' room last L := ⟨h.1, h.2.1, h.2.2.1.mono hn, h.2.2.2⟩
theorem FAt.inj (h : FAt w fb tb ts m nb n room last L) {g y : S84} (hg : g ∈ L) (hy : y ∈ L) (e : nb g.f0 = nb y.f0) : g.f0 = y.f0 := by
 have h1 := h.2.2.2 g hg
 have h2 := h.2.2.2 y hy
 unfold NodeAt nodeV at h1 h2
 rw [e, h2] at h1
 simp at h1
 exact h1.1.symm
theorem FAt.apart (h : FAt w fb tb ts m nb n room last L) {g : S84} (hg : g ∈ L) : nb g.f0 ≠ fb ∧ nb g.f0 ≠ tb ∧ nb g.f0 ≠ ts ∧ nb g.f0 ≠ m := by
 have h1 := h.2.2.2 g hg
 unfold NodeAt nodeV at h1
 obtain ⟨l, ⟨t1, t2, t3, t4⟩, _⟩ := h.2.1
 obtain ⟨D, ⟨es, clock, m1, _⟩, _⟩ := h.2.2.1
 refine ⟨fun e => ?_, fun e => ?_, fun e => ?_, fun e => ?_⟩
 ·
  rw [e, h.1] at h1
  simp at h1
 ·
  rw [e, t2] at h1
  simp at h1
 ·
  rw [e, t3] at h1
  simp at h1
 ·
  rw [e, m1] at h1
  simp at h1
theorem FAt.apart2 (h : FAt w fb tb ts m nb n room last L) : fb ≠ tb ∧ fb ≠ ts ∧ fb ≠ m ∧ tb ≠ m ∧ ts ≠ m := by
 have h1 := h.1
 obtain ⟨l, ⟨t1, t2, t3, t4⟩, _⟩ := h.2.1
 obtain ⟨D, ⟨es, clock, m1, _⟩, _⟩ := h.2.2.1
 refine ⟨fun e => ?_, fun e => ?_, fun e => ?_, fun e => ?_, fun e => ?_⟩
 ·
  rw [e, t2] at h1
  simp at h1
 ·
  rw [e, t3] at h1
  simp at h1
 ·
  rw [e, m1] at h1
  simp at h1
 ·
  rw [e, m1] at t2
  simp at t2
 ·
  rw [e, m1] at t3
  simp at t3
theorem FAt.path (h : FAt w fb tb ts m nb n room last L) (hA : Asc L) : ∀ {c : List Int} {id : Int}, Ch (prt L) c id → PathAt w (c.map nb) ∧ ptrO (c.map nb).head? = pOf nb id
 | [], id, hc => by
  have h0 : id < 0 := hc
  refine ⟨trivial, ?_⟩
  unfold pOf
  rw [if_pos h0]
  rfl
 | x :: c, id, hc => by
  obtain ⟨rfl, h0, p, hp, h1⟩ := hc
  obtain ⟨g, hg, rfl, rfl⟩ := prt_some hp
  obtain ⟨i1, i2⟩ := FAt.path h hA h1
  have h4 := h.2.2.2 g hg
  refine ⟨⟨⟨.int .i64 g.f0, .int .i64 g.f2, .int .i64 g.f3, .int .i64 g.f4, .int .i64 (act L g.f0), .int .i64 (kid L g.f0), by rw [i2]; exact h4⟩, i1⟩, ?_⟩
  ·
   unfold pOf
   rw [if_neg (by omega)]
   rfl
theorem FAt.live (h : FAt w fb tb ts m nb n room last L) {g : S84} (hg : g ∈ L) : Live w (nb g.f0) := ⟨_, h.2.2.2 g hg⟩
theorem run_zeroP (w : World) : (zeroValue 64).run Try.prog w = .ok (.pointer none) w := by kernel_rfl
theorem FAt.look2 (h : FAt w fb tb ts m nb n room last L) {id : Int} (wf : (Lit.int .i64 id).wf = true) :
  (∀ g, fnd L id = some g → (Instr.lookup 60 (.map (some m)) (.int .i64 id) true).run Try.prog w = .ok (.tuple #[.pointer (some ⟨nb id, 0, none⟩), .bool true]) w) ∧
  (fnd L id = none → (Instr.lookup 60 (.map (some m)) (.int .i64 id) true).run Try.prog w = .ok (.tuple #[.pointer none, .bool false]) w) := by
 obtain ⟨h1, h2⟩ := h.2.2.1.look2 (t := 60) (e := 64) (k := id) Try.underlying3 Try.underlying60 (run_zeroP w) wf
 refine ⟨fun g hg => h1 (nb id) ?_, fun hn => h2 ?_⟩
 ·
  rw [hg]
  rfl
 ·
  rw [hn]
  rfl
end
theorem wf_i64 {x : Int} (h0 : -9223372036854775808 ≤ x) (h1 : x ≤ 9223372036854775807) : (Lit.int .i64 x).wf = true := by
 have e1 : IntKind.min .i64 = -9223372036854775808 := by rfl
 have e2 : IntKind.max .i64 = 9223372036854775807 := by rfl
 show (decide (IntKind.min .i64 ≤ x) && decide (x ≤ IntKind.max .i64)) = true
 rw [e1, e2, decide_eq_true h0, decide_eq_true h1]
 rfl
theorem wf_of {room : Nat} {last : Int} {L : List S84} (hG : GoodF room last L) {g : S84} (hg : g ∈ L) : (Lit.int .i64 g.f0).wf = true := by
 obtain ⟨g1, g2, _⟩ := hG.2.2.2.2.2 g hg
 have := hG.2.2.2.1
 exact wf_i64 (by omega) (by omega)
theorem active_ok {w : World} {fb tb ts m : Nat} {nb : Int → Nat} {n room : Nat} {last : Int} {L : List S84} (h : FAt w fb tb ts m nb n room last L) (hG : GoodF room last L) {id : Int} (wf : (Lit.int .i64 id).wf = true) :
  Calls Try.prog 21 #[.pointer (some ⟨fb, 0, none⟩), .int .i64 id] w fun e w' => e = .returned (.int .i64 (if (fnd L id).isSome then act L id else 0)) ∧ Below w.heap.size w w' := by
 obtain ⟨f0, f1⟩ := h.facts
 obtain ⟨l1, l2⟩ := h.look2 wf
 cases hf : fnd L id with
 | none =>
  have l3 := l2 hf
  clear l1 l2 h hG
  go_enter Try.func21, Try.ntmps21
  go_wp2_with fail
  go_ret
  exact ⟨rfl, Below.refl _ _⟩
 | some g =>
  have l3 := l1 g hf
  obtain ⟨hg, rfl⟩ := za5 hf
  have hn := h.2.2.2 g hg
  have c5 : w.cell? ⟨nb g.f0, 5, none⟩ = some (.int .i64 (act L g.f0)) := (za hn 5).trans rfl
  clear l1 l2 h hG hn
  go_enter Try.func21, Try.ntmps21
  go_wp2_with fail
  go_ret
  exact ⟨rfl, Below.refl _ _⟩
end Go.Proofs.Ytlmjdchcgfpngaa.P
end
section
namespace Go.Proofs.Ytlmjdchcgfpngaa.P
open Go.RowKit Go.Proofs.YtlmjdchcgfpngaaW.PrintWords Go.Proofs.YtlmjdchcgfpngaaW.PrintLast Go.Proofs.YtlmjdchcgfpngaaW.PrintMore
attribute [local go_sem] zbo zbq zbz zbx zbi zbg zbr zbp
def cntF (L : List S84) (id dm da : Int) : List S84 × Int :=
 match fnd L id with
 | none => (L, 4)
 | some g => if 0 < dm ∧ kid L id + g.f3 = 32 then (L, 6) else if g.f4 + da < 0 ∨ g.f3 + dm < g.f4 + da then (L, 10) else (setG L id (fun g => ⟨g.f0, g.f1, g.f2, g.f3 + dm, g.f4 + da⟩), 0)
theorem cntF_none {L : List S84} {id dm da : Int} (h : fnd L id = none) : cntF L id dm da = (L, 4) := by
 unfold cntF
 rw [h]
theorem cntF_some {L : List S84} {id dm da : Int} {g : S84} (h : fnd L id = some g) : cntF L id dm da = if 0 < dm ∧ kid L id + g.f3 = 32 then (L, 6) else if g.f4 + da < 0 ∨ g.f3 + dm < g.f4 + da then (L, 10) else (setG L id (fun g => ⟨g.f0, g.f1, g.f2, g.f3 + dm, g.f4 + da⟩), 0) := by
 unfold cntF
 rw [h]
theorem cntF_good {room : Nat} {last : Int} {L : List S84} (hG : GoodF room last L) (id dm da : Int) (hd : dm ≤ 1) : GoodF room last (cntF L id dm da).1 := by
 cases hf : fnd L id with
 | none =>
  rw [cntF_none hf]
  exact hG
 | some g =>
  rw [cntF_some hf]
  obtain ⟨hg, rfl⟩ := za5 hf
  obtain ⟨g1, g2, g3, g4, g5, g6, g7, g8⟩ := hG.2.2.2.2.2 g hg
  split
  ·
   exact hG
  ·
   split
   ·
    exact hG
   ·
    exact hG.setG hg (fun _ => rfl) (fun _ => rfl) g5 (by dsimp only; omega) (by dsimp only; omega) (by dsimp only; omega)
section
variable {w w' : World} {fb tb ts m : Nat} {nb : Int → Nat} {n room : Nat} {last : Int} {L L' : List S84}
theorem isSome_map {α β : Type} {o o' : Option α} (h : o'.isSome = o.isSome) (b : β) : (o'.map fun _ => b) = o.map fun _ => b := by
 cases o <;> cases o' <;> simp at h ⊢
theorem FAt.rebuild (h : FAt w fb tb ts m nb n room last L) (hs : ∀ x, (fnd L' x).isSome = (fnd L x).isSome) (hid : L'.map (·.f0) = L.map (·.f0)) (he : ∀ k, k = fb ∨ k = tb ∨ k = ts ∨ k = m → w'.heap[k]? = w.heap[k]?)
  (hn : ∀ g ∈ L', NodeAt w' nb L' g) : FAt w' fb tb ts m nb n room last L' := by
 obtain ⟨h1, h2, ⟨D, ⟨es, clock, h3, h3'⟩, h3''⟩, h4⟩ := h
 refine ⟨(he _ (.inl rfl)).trans h1, ?_, ?_, hn⟩
 ·
  rw [hid]
  exact h2.blocks (he _ (.inr (.inl rfl))) (he _ (.inr (.inr (.inl rfl))))
 ·
  refine MapAt.ext (g := fun id => (fnd L id).map fun _ => nb id) ⟨D, ⟨es, clock, (he _ (.inr (.inr (.inr rfl)))).trans h3, h3'⟩, h3''⟩ fun k => ?_
  exact isSome_map (hs k) _
theorem fnd_setG_some {id : Int} {h : S84 → S84} (h0 : ∀ g, (h g).f0 = g.f0) (x : Int) : (fnd (setG L id h) x).isSome = (fnd L x).isSome := by
 rw [fnd_setG h0, Option.isSome_map]
theorem FAt.setN (h : FAt w fb tb ts m nb n room last L) (hA : Asc L) {g : S84} (hg : g ∈ L) {hh : S84 → S84} (h0 : ∀ g, (hh g).f0 = g.f0) (h1 : ∀ g, (hh g).f1 = g.f1) (h4 : (hh g).f4 = g.f4)
  (hw : w'.heap[nb g.f0]? = some (nodeV g.f0 (pOf nb g.f1) (hh g).f2 (hh g).f3 (hh g).f4 (act L g.f0) (kid L g.f0))) (he : ∀ k, k ≠ nb g.f0 → w'.heap[k]? = w.heap[k]?) : FAt w' fb tb ts m nb n room last (setG L g.f0 hh) := by
 obtain ⟨a1, a2, a3, a4⟩ := h.apart hg
 refine h.rebuild (fnd_setG_some h0) (setG_ids h0) (fun k hk => he k (by rcases hk with rfl | rfl | rfl | rfl; exact a1.symm; exact a2.symm; exact a3.symm; exact a4.symm)) fun y hy => ?_
 obtain ⟨z, hz, rfl⟩ := mem_setG hy
 unfold NodeAt
 rw [setG_f0 h0, act_setG h0 h1 hA hg, kid_setG h1, h4]
 have e0 : (if z.f0 ∈ way L g.f0 then g.f4 - g.f4 else 0) = 0 := by split <;> omega
 rw [e0, Int.add_zero]
 by_cases e : z.f0 = g.f0
 ·
  obtain rfl := hA.inj hz hg e
  rw [if_pos rfl, h1]
  exact hw
 ·
  rw [if_neg e, he _ (fun e2 => e (h.inj hz hg e2))]
  exact h.2.2.2 z hz
theorem PathAt.far {bs : List Nat} (h : PathAt w bs) {b : Nat} {x0 x1 x2 x3 x4 x5 x6 : Value} (hb : w.heap[b]? = some (.cells #[x0, x1, x2, x3, x4, x5, x6] 71 (0, 0))) {y0 y2 y3 y4 y5 y6 : Value} (hb' : w'.heap[b]? = some (.cells #[y0, x1, y2, y3, y4, y5, y6] 71 (0, 0))) (he : ∀ k, k ≠ b → w'.heap[k]? = w.heap[k]?) : PathAt w' bs := by
 induction bs with
 | nil => trivial
 | cons c r ih =>
  obtain ⟨⟨z0, z2, z3, z4, z5, z6, hz⟩, hr⟩ := h
  refine ⟨?_, ih hr⟩
  by_cases e : c = b
  ·
   subst e
   rw [hb] at hz
   simp at hz
   obtain ⟨_, e1, _⟩ := hz
   exact ⟨y0, y2, y3, y4, y5, y6, by rw [hb', e1]⟩
  ·
   exact ⟨z0, z2, z3, z4, z5, z6, (he c e).trans hz⟩
theorem mem_way (h : FAt w fb tb ts m nb n room last L) {c : List Int} {id : Int} (hc : Ch (prt L) c id) {y : S84} (hy : y ∈ L) : nb y.f0 ∈ c.map nb ↔ y.f0 ∈ c := by
 constructor
 ·
  intro hm
  obtain ⟨x, hx, e⟩ := List.mem_map.1 hm
  obtain ⟨z, hz, rfl⟩ := way_mem hc hx
  rw [← h.inj hz hy e]
  exact hx
 ·
  exact fun hm => List.mem_map.2 ⟨_, hm, rfl⟩
theorem way_nodup (h : FAt w fb tb ts m nb n room last L) {c : List Int} {id : Int} (hc : Ch (prt L) c id) : (c.map nb).Nodup := by
 refine List.Pairwise.map _ ?_ (List.Pairwise.and hc.nodup (List.pairwise_of_forall_mem_list (r := fun a b => a ∈ c ∧ b ∈ c) fun a ha b hb => ⟨ha, hb⟩))
 rintro a b ⟨hne, ha, hb⟩ e
 obtain ⟨x, hx, rfl⟩ := way_mem hc ha
 obtain ⟨y, hy, rfl⟩ := way_mem hc hb
 exact hne (h.inj hx hy e)
end
end Go.Proofs.Ytlmjdchcgfpngaa.P
end
section
namespace Go.Proofs.Ytlmjdchcgfpngaa.P
open Go.RowKit Go.Proofs.YtlmjdchcgfpngaaW.PrintWords Go.Proofs.YtlmjdchcgfpngaaW.PrintLast Go.Proofs.YtlmjdchcgfpngaaW.PrintMore
attribute [local go_sem] zbo zbq zbz zbx zbi zbg zbr zbp
theorem join_ok {w : World} {fb tb ts m : Nat} {nb : Int → Nat} {n room : Nat} {last : Int} {L : List S84} (h : FAt w fb tb ts m nb n room last L) (hG : GoodF room last L) {id : Int} (wf : (Lit.int .i64 id).wf = true) :
  Calls Try.prog 15 #[.pointer (some ⟨fb, 0, none⟩), .int .i64 id] w fun e w' => e = .returned (.int .i64 (cntF L id 1 0).2) ∧ FAt w' fb tb ts m nb n room last (cntF L id 1 0).1 ∧ Wr (FS fb tb ts m nb L) w w' := by
 obtain ⟨f0, f1⟩ := h.facts
 obtain ⟨l1, l2⟩ := h.look2 wf
 have H := Aside0.mk h
 have HG := Aside0.mk hG
 cases hf : fnd L id with
 | none =>
  have l3 := l2 hf
  rw [cntF_none hf]
  clear l1 l2 h hG hf
  go_enter Try.func15, Try.ntmps15
  go_wp2_with fail
  go_ret
  exact ⟨rfl, H.out, Wr.refl _ _⟩
 | some g =>
  have l3 := l1 g hf
  rw [cntF_some hf]
  obtain ⟨hg, rfl⟩ := za5 hf
  have hn := h.2.2.2 g hg
  have HN := Aside0.mk hn
  have HM := Aside0.mk hg
  obtain ⟨g1, g2, g3, _, g5, g6, g7, g8⟩ := hG.2.2.2.2.2 g hg
  have k0 := zba L g.f0
  have c3 : w.cell? ⟨nb g.f0, 3, none⟩ = some (.int .i64 g.f3) := (za hn 3).trans rfl
  have c4 : w.cell? ⟨nb g.f0, 4, none⟩ = some (.int .i64 g.f4) := (za hn 4).trans rfl
  have z3 := zaa hn 3
  have z4 := zaa hn 4
  clear l1 l2 h hG hf hn hg
  by_cases hfull : kid L g.f0 + g.f3 = 32
  ·
   have d1 : (kid L g.f0 + g.f3 == 32) = true := beq_iff_eq.mpr hfull
   rw [if_pos ⟨by omega, hfull⟩]
   go_enter Try.func15, Try.ntmps15
   go_wp2_with fail
   refine (fan_ok HN.out (by omega)).mono ?_
   rintro e w1 ⟨rfl, hb1⟩
   have HB := Aside0.mk hb1
   clear hb1
   go_wp2_with fail
   go_ret
   exact ⟨rfl, H.out.keep HB.out, Wr.of_below HB.out⟩
  ·
   have d1 : (kid L g.f0 + g.f3 == 32) = false := beq_eq_false_iff_ne.mpr hfull
   rw [if_neg (fun hh => hfull hh.2), if_neg (by omega)]
   go_enter Try.func15, Try.ntmps15
   go_wp2_with fail
   refine (fan_ok HN.out (by omega)).mono ?_
   rintro e w1 ⟨rfl, hb1⟩
   have HB := Aside0.mk hb1
   have HN1 := Aside0.mk ((hb1.block _ (zar HN.out)).trans HN.out)
   have c3 : w1.cell? ⟨nb g.f0, 3, none⟩ = some (.int .i64 g.f3) := (za HN1.out 3).trans rfl
   have z3 := zaa HN1.out 3
   have wl : wrap64 (g.f3 + 1) = g.f3 + 1 := w64s (by omega) (by omega)
   clear hb1
   go_wp2_with fail
   go_ret
   refine ⟨rfl, ?_, (Wr.of_below HB.out).set (.inl (.inr (.inr (.inr (.inr ⟨g, HM.out, rfl⟩))))) _⟩
   refine (H.out.keep HB.out).setN HG.out.2.2.2.2.1 HM.out (fun _ => rfl) (fun _ => rfl) (by simp) ?_ fun k hk => Below.heap_setCell _ _ _ _ hk
   dsimp only
   rw [Int.add_zero]
   exact zau HN1.out 3 _ rfl
theorem leave_ok {w : World} {fb tb ts m : Nat} {nb : Int → Nat} {n room : Nat} {last : Int} {L : List S84} (h : FAt w fb tb ts m nb n room last L) (hG : GoodF room last L) {id : Int} (wf : (Lit.int .i64 id).wf = true) :
  Calls Try.prog 40 #[.pointer (some ⟨fb, 0, none⟩), .int .i64 id] w fun e w' => e = .returned (.int .i64 (cntF L id (-1) 0).2) ∧ FAt w' fb tb ts m nb n room last (cntF L id (-1) 0).1 ∧ Wr (FS fb tb ts m nb L) w w' := by
 obtain ⟨f0, f1⟩ := h.facts
 obtain ⟨l1, l2⟩ := h.look2 wf
 have H := Aside0.mk h
 have HG := Aside0.mk hG
 cases hf : fnd L id with
 | none =>
  have l3 := l2 hf
  rw [cntF_none hf]
  clear l1 l2 h hG hf
  go_enter Try.func40, Try.ntmps40
  go_wp2_with fail
  go_ret
  exact ⟨rfl, H.out, Wr.refl _ _⟩
 | some g =>
  have l3 := l1 g hf
  rw [cntF_some hf]
  obtain ⟨hg, rfl⟩ := za5 hf
  have hn := h.2.2.2 g hg
  have HN := Aside0.mk hn
  have HM := Aside0.mk hg
  obtain ⟨g1, g2, g3, _, g5, g6, g7, g8⟩ := hG.2.2.2.2.2 g hg
  have k0 := zba L g.f0
  have c3 : w.cell? ⟨nb g.f0, 3, none⟩ = some (.int .i64 g.f3) := (za hn 3).trans rfl
  have c4 : w.cell? ⟨nb g.f0, 4, none⟩ = some (.int .i64 g.f4) := (za hn 4).trans rfl
  have z3 := zaa hn 3
  have z4 := zaa hn 4
  clear l1 l2 h hG hf hn hg
  rw [if_neg (by omega)]
  by_cases hs : g.f3 = g.f4
  ·
   have d1 : (g.f3 == g.f4) = true := beq_iff_eq.mpr hs
   rw [if_pos (by omega)]
   clear hs
   go_enter Try.func40, Try.ntmps40
   go_wp2_with fail
   go_quiet (fail)
   go_wp2
   go_ret
   exact ⟨rfl, H.out, Wr.of_below (zbc (Below.refl _ _) _)⟩
  ·
   have d1 : (g.f3 == g.f4) = false := beq_eq_false_iff_ne.mpr hs
   rw [if_neg (by omega)]
   have wl : wrap64 (g.f3 - 1) = g.f3 - 1 := w64s (by omega) (by omega)
   go_enter Try.func40, Try.ntmps40
   go_wp2_with fail
   go_quiet (fail)
   go_wp2
   go_ret
   have HQ : FAt (w.drewN nq) fb tb ts m nb n room last L := H.out
   refine ⟨rfl, ?_, (Wr.of_below (zbc (Below.refl _ _) _)).set (.inl (.inr (.inr (.inr (.inr ⟨g, HM.out, rfl⟩))))) _⟩
   refine HQ.setN HG.out.2.2.2.2.1 HM.out (fun _ => rfl) (fun _ => rfl) (by simp) ?_ fun k hk => Below.heap_setCell _ _ _ _ hk
   dsimp only
   rw [Int.add_zero]
   exact zau (w := w.drewN nq) HN.out 3 _ rfl
theorem count_nodes {w w1 : World} {fb tb ts m : Nat} {nb : Int → Nat} {n room : Nat} {last : Int} {L : List S84} (h : FAt w fb tb ts m nb n room last L) (hG : GoodF room last L) {c : List Int} {id : Int} (hc : Ch (prt L) c id) {more : Int} (hm : -10000 ≤ more ∧ more ≤ 10000)
  (hp : PathAt w1 (c.map nb)) (a1 : S84 → Value) (a2 a3 a4 a6 : S84 → Int) (hn : ∀ y ∈ L, w1.heap[nb y.f0]? = some (nodeV y.f0 (a1 y) (a2 y) (a3 y) (a4 y) (act L y.f0) (a6 y))) :
  Calls Try.prog 30 #[pOf nb id, .int .i64 more] w1 fun e w' => e = .returned (.tuple #[]) ∧ (∀ y ∈ L, w'.heap[nb y.f0]? = some (nodeV y.f0 (a1 y) (a2 y) (a3 y) (a4 y) (act L y.f0 + if y.f0 ∈ c then more else 0) (a6 y))) ∧ Wr (fun k => ∃ y ∈ L, k = nb y.f0) w1 w' := by
 have hl : c.length ≤ 1000 := by
  by_cases h0 : id < 0
  ·
   cases c with
   | nil => simp
   | cons x c =>
    obtain ⟨_, h1, _⟩ := hc
    omega
  ·
   obtain ⟨c', rfl⟩ := hc.head (by omega)
   obtain ⟨g, hg, e⟩ := way_mem hc List.mem_cons_self
   have := (hG.way hg).2
   rw [e, way_eq hc] at this
   omega
 rw [← (h.path hG.2.2.2.2.1 hc).2]
 refine (count_ok hp (by rw [List.length_map]; exact hl) (way_nodup h hc) fun b hb => ?_).mono ?_
 ·
  obtain ⟨x, hx, rfl⟩ := List.mem_map.1 hb
  obtain ⟨y, hy, rfl⟩ := way_mem hc hx
  have := act_bounds hG y.f0
  exact ⟨_, _, _, _, _, _, _, hn y hy, by omega, by omega⟩
 ·
  rintro e w' ⟨rfl, hu, hw⟩
  refine ⟨rfl, fun y hy => ?_, hw.mono fun k hk => ?_⟩
  ·
   by_cases hyc : y.f0 ∈ c
   ·
    rw [if_pos hyc]
    exact hu _ ((mem_way h hc hy).2 hyc) _ _ _ _ _ _ _ (hn y hy)
   ·
    rw [if_neg hyc, Int.add_zero, ← hn y hy]
    exact hw.2 _ (zar (hn y hy)) fun hm => hyc ((mem_way h hc hy).1 hm)
  ·
   obtain ⟨x, hx, rfl⟩ := List.mem_map.1 hk
   obtain ⟨y, hy, rfl⟩ := way_mem hc hx
   exact ⟨y, hy, rfl⟩
theorem awake_nodes {w w1 w2 : World} {fb tb ts m : Nat} {nb : Int → Nat} {n room : Nat} {last : Int} {L : List S84} (h : FAt w fb tb ts m nb n room last L) (hG : GoodF room last L) {g : S84} (hg : g ∈ L) {da : Int}
  (h1 : Wr (FS fb tb ts m nb L) w w1) (he : ∀ k, k = fb ∨ k = tb ∨ k = ts ∨ k = m → w1.heap[k]? = w.heap[k]?)
  (hn : ∀ y ∈ L, w2.heap[nb y.f0]? = some (nodeV y.f0 (pOf nb y.f1) y.f2 y.f3 (if y.f0 = g.f0 then y.f4 + da else y.f4) (act L y.f0 + if y.f0 ∈ way L g.f0 then da else 0) (kid L y.f0))) (h2 : Wr (fun k => ∃ y ∈ L, k = nb y.f0) w1 w2) :
  FAt w2 fb tb ts m nb n room last (setG L g.f0 (fun g => ⟨g.f0, g.f1, g.f2, g.f3 + 0, g.f4 + da⟩)) ∧ Wr (FS fb tb ts m nb L) w w2 := by
 refine ⟨h.rebuild (fnd_setG_some fun _ => rfl) (setG_ids fun _ => rfl) (fun k hk => ?_) (fun y hy => ?_), h1.trans h2 fun k hk => .inl (.inr (.inr (.inr (.inr hk))))⟩
 ·
  have hk' : FS fb tb ts m nb L k := by rcases hk with hk | hk | hk | hk; exact .inl hk; exact .inr (.inl hk); exact .inr (.inr (.inl hk)); exact .inr (.inr (.inr (.inl hk)))
  rw [h2.2 k (Nat.lt_of_lt_of_le (h.lt hk') h1.size) (fun ⟨y, hy, e⟩ => by
   obtain ⟨a1, a2, a3, a4⟩ := h.apart hy
   rw [← e] at a1 a2 a3 a4
   rcases hk with hk | hk | hk | hk
   ·
    exact a1 hk
   ·
    exact a2 hk
   ·
    exact a3 hk
   ·
    exact a4 hk)]
  exact he k hk
 ·
  obtain ⟨z, hz, rfl⟩ := mem_setG hy
  unfold NodeAt
  rw [setG_f0 (h := fun g => ⟨g.f0, g.f1, g.f2, g.f3 + 0, g.f4 + da⟩) fun _ => rfl, act_setG (h := fun g => ⟨g.f0, g.f1, g.f2, g.f3 + 0, g.f4 + da⟩) (fun _ => rfl) (fun _ => rfl) hG.2.2.2.2.1 hg, kid_setG (h := fun g => ⟨g.f0, g.f1, g.f2, g.f3 + 0, g.f4 + da⟩) fun _ => rfl, hn z hz]
  have e1 : (g.f4 + da - g.f4) = da := by omega
  dsimp only
  rw [e1]
  split
  ·
   rw [Int.add_zero]
  ·
   rfl
theorem wake_ok {w : World} {fb tb ts m : Nat} {nb : Int → Nat} {n room : Nat} {last : Int} {L : List S84} (h : FAt w fb tb ts m nb n room last L) (hG : GoodF room last L) {id : Int} (wf : (Lit.int .i64 id).wf = true) :
  Calls Try.prog 41 #[.pointer (some ⟨fb, 0, none⟩), .int .i64 id] w fun e w' => e = .returned (.int .i64 (cntF L id 0 1).2) ∧ FAt w' fb tb ts m nb n room last (cntF L id 0 1).1 ∧ Wr (FS fb tb ts m nb L) w w' := by
 obtain ⟨f0, f1⟩ := h.facts
 obtain ⟨l1, l2⟩ := h.look2 wf
 have H := Aside0.mk h
 have HG := Aside0.mk hG
 cases hf : fnd L id with
 | none =>
  have l3 := l2 hf
  rw [cntF_none hf]
  clear l1 l2 h hG hf
  go_enter Try.func41, Try.ntmps41
  go_wp2_with fail
  go_ret
  exact ⟨rfl, H.out, Wr.refl _ _⟩
 | some g =>
  have l3 := l1 g hf
  rw [cntF_some hf]
  obtain ⟨hg, rfl⟩ := za5 hf
  have hn := h.2.2.2 g hg
  have HN := Aside0.mk hn
  have HM := Aside0.mk hg
  obtain ⟨g1, g2, g3, _, g5, g6, g7, g8⟩ := hG.2.2.2.2.2 g hg
  have k0 := zba L g.f0
  have c3 : w.cell? ⟨nb g.f0, 3, none⟩ = some (.int .i64 g.f3) := (za hn 3).trans rfl
  have c4 : w.cell? ⟨nb g.f0, 4, none⟩ = some (.int .i64 g.f4) := (za hn 4).trans rfl
  have z3 := zaa hn 3
  have z4 := zaa hn 4
  clear l1 l2 h hG hf hn hg
  rw [if_neg (by omega)]
  by_cases hs : g.f3 = g.f4
  ·
   have d1 : (g.f3 == g.f4) = true := beq_iff_eq.mpr hs
   rw [if_pos (by omega)]
   clear hs
   go_enter Try.func41, Try.ntmps41
   go_wp2_with fail
   go_quiet (fail)
   go_wp2_with fail
   go_ret
   exact ⟨rfl, H.out, Wr.of_below (zbc (Below.refl _ _) _)⟩
  ·
   have d1 : (g.f3 == g.f4) = false := beq_eq_false_iff_ne.mpr hs
   rw [if_neg (by omega)]
   have wl : wrap64 (g.f4 + 1) = g.f4 + 1 := w64s (by omega) (by omega)
   go_enter Try.func41, Try.ntmps41
   go_wp2_with fail
   go_quiet (fail)
   go_wp2_with fail
   have HQ : FAt (w.drewN nq) fb tb ts m nb n room last L := H.out
   have hput := zau (w := (w.drewN nq)) HN.out 4 (.int .i64 (g.f4 + 1)) rfl
   have hw1 : Wr (FS fb tb ts m nb L) w ((w.drewN nq).setCell ⟨nb g.f0, 4, none⟩ (.int .i64 (g.f4 + 1))) := (Wr.of_below (zbc (Below.refl _ _) _)).set (.inl (.inr (.inr (.inr (.inr ⟨g, HM.out, rfl⟩))))) _
   have hfar : ∀ k, k ≠ nb g.f0 → ((w.drewN nq).setCell ⟨nb g.f0, 4, none⟩ (.int .i64 (g.f4 + 1))).heap[k]? = w.heap[k]? := fun k hk => Below.heap_setCell _ _ _ _ hk
   generalize (w.drewN nq).setCell ⟨nb g.f0, 4, none⟩ (.int .i64 (g.f4 + 1)) = W1 at hput hw1 hfar ⊢
   obtain ⟨hc, hcl⟩ := HG.out.way HM.out
   obtain ⟨hp, he0⟩ := HQ.path HG.out.2.2.2.2.1 hc
   have hp1 : PathAt W1 ((way L g.f0).map nb) := PathAt.far hp HN.out hput hfar
   have hpo : pOf nb g.f0 = .pointer (some ⟨nb g.f0, 0, none⟩) := by
    unfold pOf
    rw [if_neg (by omega)]
   have hcn := count_nodes (w1 := W1) H.out HG.out hc (more := 1) (by omega) hp1 (fun y => pOf nb y.f1) (fun y => y.f2) (fun y => y.f3) (fun y => if y.f0 = g.f0 then y.f4 + 1 else y.f4) (fun y => kid L y.f0) (fun y hy => by
    by_cases e : y.f0 = g.f0
    ·
     obtain rfl := HG.out.2.2.2.2.1.inj hy HM.out e
     rw [if_pos rfl]
     exact hput
    ·
     rw [if_neg e, hfar _ (fun e2 => e (H.out.inj hy HM.out e2))]
     exact H.out.2.2.2 y hy)
   rw [hpo] at hcn
   have HC := Aside0.mk hcn
   have HW1 := Aside0.mk hw1
   have HF := Aside0.mk hfar
   clear hput hw1 hfar hc hcl hp he0 hp1 hpo hcn
   go_wp2_with fail
   refine HC.out.mono ?_
   rintro e w2 ⟨rfl, hn2, hw2⟩
   have HX := Aside0.mk (awake_nodes H.out HG.out HM.out HW1.out (fun k hk => HF.out k (by
    obtain ⟨a1, a2, a3, a4⟩ := H.out.apart HM.out
    rcases hk with rfl | rfl | rfl | rfl
    ·
     exact a1.symm
    ·
     exact a2.symm
    ·
     exact a3.symm
    ·
     exact a4.symm)) hn2 hw2)
   clear hn2 hw2
   go_wp2_with fail
   go_ret
   exact ⟨rfl, HX.out.1, HX.out.2⟩
theorem sleep_ok {w : World} {fb tb ts m : Nat} {nb : Int → Nat} {n room : Nat} {last : Int} {L : List S84} (h : FAt w fb tb ts m nb n room last L) (hG : GoodF room last L) {id : Int} (wf : (Lit.int .i64 id).wf = true) :
  Calls Try.prog 42 #[.pointer (some ⟨fb, 0, none⟩), .int .i64 id] w fun e w' => e = .returned (.int .i64 (cntF L id 0 (-1)).2) ∧ FAt w' fb tb ts m nb n room last (cntF L id 0 (-1)).1 ∧ Wr (FS fb tb ts m nb L) w w' := by
 obtain ⟨f0, f1⟩ := h.facts
 obtain ⟨l1, l2⟩ := h.look2 wf
 have H := Aside0.mk h
 have HG := Aside0.mk hG
 cases hf : fnd L id with
 | none =>
  have l3 := l2 hf
  rw [cntF_none hf]
  clear l1 l2 h hG hf
  go_enter Try.func42, Try.ntmps42
  go_wp2_with fail
  go_ret
  exact ⟨rfl, H.out, Wr.refl _ _⟩
 | some g =>
  have l3 := l1 g hf
  rw [cntF_some hf]
  obtain ⟨hg, rfl⟩ := za5 hf
  have hn := h.2.2.2 g hg
  have HN := Aside0.mk hn
  have HM := Aside0.mk hg
  obtain ⟨g1, g2, g3, _, g5, g6, g7, g8⟩ := hG.2.2.2.2.2 g hg
  have k0 := zba L g.f0
  have c3 : w.cell? ⟨nb g.f0, 3, none⟩ = some (.int .i64 g.f3) := (za hn 3).trans rfl
  have c4 : w.cell? ⟨nb g.f0, 4, none⟩ = some (.int .i64 g.f4) := (za hn 4).trans rfl
  have z3 := zaa hn 3
  have z4 := zaa hn 4
  clear l1 l2 h hG hf hn hg
  rw [if_neg (by omega)]
  by_cases hs : g.f4 = 0
  ·
   have d1 : (g.f4 == 0) = true := beq_iff_eq.mpr hs
   rw [if_pos (by omega)]
   clear hs
   go_enter Try.func42, Try.ntmps42
   go_wp2_with fail
   go_ret
   exact ⟨rfl, H.out, Wr.of_below (Below.refl _ _)⟩
  ·
   have d1 : (g.f4 == 0) = false := beq_eq_false_iff_ne.mpr hs
   rw [if_neg (by omega)]
   have wl : wrap64 (g.f4 - 1) = g.f4 - 1 := w64s (by omega) (by omega)
   go_enter Try.func42, Try.ntmps42
   go_wp2_with fail
   have HQ : FAt w fb tb ts m nb n room last L := H.out
   have hput := zau (w := w) HN.out 4 (.int .i64 (g.f4 - 1)) rfl
   have hw1 : Wr (FS fb tb ts m nb L) w (w.setCell ⟨nb g.f0, 4, none⟩ (.int .i64 (g.f4 - 1))) := (Wr.of_below (Below.refl _ _)).set (.inl (.inr (.inr (.inr (.inr ⟨g, HM.out, rfl⟩))))) _
   have hfar : ∀ k, k ≠ nb g.f0 → (w.setCell ⟨nb g.f0, 4, none⟩ (.int .i64 (g.f4 - 1))).heap[k]? = w.heap[k]? := fun k hk => Below.heap_setCell _ _ _ _ hk
   generalize w.setCell ⟨nb g.f0, 4, none⟩ (.int .i64 (g.f4 - 1)) = W1 at hput hw1 hfar ⊢
   obtain ⟨hc, hcl⟩ := HG.out.way HM.out
   obtain ⟨hp, he0⟩ := HQ.path HG.out.2.2.2.2.1 hc
   have hp1 : PathAt W1 ((way L g.f0).map nb) := PathAt.far hp HN.out hput hfar
   have hpo : pOf nb g.f0 = .pointer (some ⟨nb g.f0, 0, none⟩) := by
    unfold pOf
    rw [if_neg (by omega)]
   have hcn := count_nodes (w1 := W1) H.out HG.out hc (more := (-1)) (by omega) hp1 (fun y => pOf nb y.f1) (fun y => y.f2) (fun y => y.f3) (fun y => if y.f0 = g.f0 then y.f4 + (-1) else y.f4) (fun y => kid L y.f0) (fun y hy => by
    by_cases e : y.f0 = g.f0
    ·
     obtain rfl := HG.out.2.2.2.2.1.inj hy HM.out e
     rw [if_pos rfl]
     exact hput
    ·
     rw [if_neg e, hfar _ (fun e2 => e (H.out.inj hy HM.out e2))]
     exact H.out.2.2.2 y hy)
   rw [hpo] at hcn
   have HC := Aside0.mk hcn
   have HW1 := Aside0.mk hw1
   have HF := Aside0.mk hfar
   clear hput hw1 hfar hc hcl hp he0 hp1 hpo hcn
   go_wp2_with fail
   refine HC.out.mono ?_
   rintro e w2 ⟨rfl, hn2, hw2⟩
   have HX := Aside0.mk (awake_nodes H.out HG.out HM.out HW1.out (fun k hk => HF.out k (by
    obtain ⟨a1, a2, a3, a4⟩ := H.out.apart HM.out
    rcases hk with rfl | rfl | rfl | rfl
    ·
     exact a1.symm
    ·
     exact a2.symm
    ·
     exact a3.symm
    ·
     exact a4.symm)) hn2 hw2)
   clear hn2 hw2
   go_wp2_with fail
   go_ret
   exact ⟨rfl, HX.out.1, HX.out.2⟩
theorem right_ok (x : Int) (w : World) : Calls Try.prog 24 #[.int .i64 x] w fun e w' => e = .returned (.bool (decide (1 ≤ x ∧ x ≤ 10000))) ∧ w' = w := by
 by_cases h1 : x < 1
 ·
  have d1 : decide (x ≥ 1) = false := decide_eq_false (by omega)
  go_enter Try.func24, Try.ntmps24
  go_wp2_with fail
  go_ret
  refine ⟨?_, rfl⟩
  try rw [decide_eq_false (show ¬ (1 ≤ x ∧ x ≤ 10000) by omega)]
  rfl
 ·
  have d1 : decide (x ≥ 1) = true := decide_eq_true (by omega)
  by_cases h2 : x ≤ 10000
  ·
   have d2 : decide (x ≤ 10000) = true := decide_eq_true h2
   go_enter Try.func24, Try.ntmps24
   go_wp2_with fail
   go_ret
   refine ⟨?_, rfl⟩
   try rw [decide_eq_true (show (1 ≤ x ∧ x ≤ 10000) by omega)]
   rfl
  ·
   have d2 : decide (x ≤ 10000) = false := decide_eq_false h2
   go_enter Try.func24, Try.ntmps24
   go_wp2_with fail
   go_ret
   refine ⟨?_, rfl⟩
   try rw [decide_eq_false (show ¬ (1 ≤ x ∧ x ≤ 10000) by omega)]
   rfl
def wgtF (L : List S84) (id wt : Int) : List S84 × Int :=
 match fnd L id with
 | none => (L, 4)
 | some g => if g.f1 < 0 then (L, 15) else if wt < 1 ∨ 10000 < wt then (L, 13) else (setG L id (fun g => ⟨g.f0, g.f1, wt, g.f3, g.f4⟩), 0)
theorem wgtF_none {L : List S84} {id wt : Int} (h : fnd L id = none) : wgtF L id wt = (L, 4) := by
 unfold wgtF
 rw [h]
theorem wgtF_some {L : List S84} {id wt : Int} {g : S84} (h : fnd L id = some g) : wgtF L id wt = if g.f1 < 0 then (L, 15) else if wt < 1 ∨ 10000 < wt then (L, 13) else (setG L id (fun g => ⟨g.f0, g.f1, wt, g.f3, g.f4⟩), 0) := by
 unfold wgtF
 rw [h]
theorem wgtF_good {room : Nat} {last : Int} {L : List S84} (hG : GoodF room last L) (id wt : Int) : GoodF room last (wgtF L id wt).1 := by
 cases hf : fnd L id with
 | none =>
  rw [wgtF_none hf]
  exact hG
 | some g =>
  rw [wgtF_some hf]
  obtain ⟨hg, rfl⟩ := za5 hf
  obtain ⟨g1, g2, g3, g4, g5, g6, g7, g8⟩ := hG.2.2.2.2.2 g hg
  split
  ·
   exact hG
  ·
   split
   ·
    exact hG
   ·
    exact hG.setG hg (fun _ => rfl) (fun _ => rfl) (by dsimp only; omega) g6 g7 g8
theorem weight_ok {w : World} {fb tb ts m : Nat} {nb : Int → Nat} {n room : Nat} {last : Int} {L : List S84} (h : FAt w fb tb ts m nb n room last L) (hG : GoodF room last L) {id : Int} (wt : Int) (wf : (Lit.int .i64 id).wf = true) :
  Calls Try.prog 37 #[.pointer (some ⟨fb, 0, none⟩), .int .i64 id, .int .i64 wt] w fun e w' => e = .returned (.int .i64 (wgtF L id wt).2) ∧ FAt w' fb tb ts m nb n room last (wgtF L id wt).1 ∧ Wr (FS fb tb ts m nb L) w w' := by
 obtain ⟨f0, f1⟩ := h.facts
 obtain ⟨l1, l2⟩ := h.look2 wf
 have H := Aside0.mk h
 have HG := Aside0.mk hG
 cases hf : fnd L id with
 | none =>
  have l3 := l2 hf
  rw [wgtF_none hf]
  clear l1 l2 h hG hf
  go_enter Try.func37, Try.ntmps37
  go_wp2_with fail
  go_ret
  exact ⟨rfl, H.out, Wr.refl _ _⟩
 | some g =>
  have l3 := l1 g hf
  rw [wgtF_some hf]
  obtain ⟨hg, rfl⟩ := za5 hf
  have hn := h.2.2.2 g hg
  have HN := Aside0.mk hn
  have HM := Aside0.mk hg
  have c1 : w.cell? ⟨nb g.f0, 1, none⟩ = some (pOf nb g.f1) := (za hn 1).trans rfl
  have c2 : w.cell? ⟨nb g.f0, 2, none⟩ = some (.int .i64 g.f2) := (za hn 2).trans rfl
  have z2 := zaa hn 2
  clear l1 l2 h hG hf hn hg
  by_cases h0 : g.f1 < 0
  ·
   rw [if_pos h0]
   rw [show pOf nb g.f1 = .pointer none by unfold pOf; rw [if_pos h0]] at c1
   go_enter Try.func37, Try.ntmps37
   go_wp2_with fail
   go_ret
   exact ⟨rfl, H.out, Wr.refl _ _⟩
  ·
   rw [if_neg h0]
   rw [show pOf nb g.f1 = .pointer (some ⟨nb g.f1, 0, none⟩) by unfold pOf; rw [if_neg h0]] at c1
   by_cases hw : 1 ≤ wt ∧ wt ≤ 10000
   ·
    rw [if_neg (by omega)]
    have d1 : decide (1 ≤ wt ∧ wt ≤ 10000) = true := decide_eq_true hw
    go_enter Try.func37, Try.ntmps37
    go_wp2_with fail
    go_at_call 24
    refine (right_ok wt w).mono ?_
    rw [d1]
    rintro e w1 ⟨rfl, rfl⟩
    go_wp2_with fail
    go_ret
    refine ⟨rfl, ?_, (Wr.refl _ _).set (.inl (.inr (.inr (.inr (.inr ⟨g, HM.out, rfl⟩))))) _⟩
    refine H.out.setN (hh := fun g => ⟨g.f0, g.f1, wt, g.f3, g.f4⟩) HG.out.2.2.2.2.1 HM.out (fun _ => rfl) (fun _ => rfl) rfl ?_ fun k hk => Below.heap_setCell _ _ _ _ hk
    exact zau HN.out 2 _ rfl
   ·
    rw [if_pos (by omega)]
    have d1 : decide (1 ≤ wt ∧ wt ≤ 10000) = false := decide_eq_false hw
    go_enter Try.func37, Try.ntmps37
    go_wp2_with fail
    go_at_call 24
    refine (right_ok wt w).mono ?_
    rw [d1]
    rintro e w1 ⟨rfl, rfl⟩
    go_wp2_with fail
    go_ret
    exact ⟨rfl, H.out, Wr.refl _ _⟩
theorem pOf_pos {nb : Int → Nat} {id : Int} (h : 0 ≤ id) : pOf nb id = .pointer (some ⟨nb id, 0, none⟩) := by
 unfold pOf
 rw [if_neg (by omega)]
theorem below_nodes {w : World} {fb tb ts m : Nat} {nb : Int → Nat} {n room : Nat} {last : Int} {L : List S84} (h : FAt w fb tb ts m nb n room last L) (hG : GoodF room last L) {g t : S84} (hg : g ∈ L) (ht : t ∈ L) :
  Calls Try.prog 28 #[.pointer (some ⟨nb g.f0, 0, none⟩), .pointer (some ⟨nb t.f0, 0, none⟩)] w fun e w' => e = .returned (.bool (decide (t.f0 ∈ way L g.f0))) ∧ Below w.heap.size w w' := by
 obtain ⟨hc, hl⟩ := hG.way hg
 obtain ⟨hp, he⟩ := h.path hG.2.2.2.2.1 hc
 have h0 := (hG.2.2.2.2.2 g hg).1
 rw [pOf_pos (by omega)] at he
 have := below_ok hp (by rw [List.length_map]; omega) (h.live ht)
 rw [he] at this
 refine this.mono ?_
 rintro e w' ⟨rfl, hb⟩
 refine ⟨?_, hb⟩
 congr 2
 exact decide_eq_decide.2 (mem_way h hc ht)
theorem path_node {w : World} {fb tb ts m : Nat} {nb : Int → Nat} {n room : Nat} {last : Int} {L : List S84} (h : FAt w fb tb ts m nb n room last L) (hG : GoodF room last L) {g : S84} (hg : g ∈ L) :
  Calls Try.prog 25 #[.pointer (some ⟨nb g.f0, 0, none⟩)] w fun e w' => ∃ A c, e = .returned (.slice A (way L g.f0).length c) ∧ Below w.heap.size w w' := by
 obtain ⟨hc, hl⟩ := hG.way hg
 obtain ⟨hp, he⟩ := h.path hG.2.2.2.2.1 hc
 have h0 := (hG.2.2.2.2.2 g hg).1
 rw [pOf_pos (by omega)] at he
 have := path_ok hp (by rw [List.length_map]; omega)
 rw [he] at this
 refine this.mono ?_
 rintro e w' ⟨v, rfl, hr, hb⟩
 obtain ⟨A, c, rfl, _, _⟩ := kp_V hr
 exact ⟨A, c, by rw [List.length_map], hb⟩
noncomputable def rootG (L : List S84) (id : Int) : Int := (way L id).getLast?.getD 0
theorem rootG_mem {room : Nat} {last : Int} {L : List S84} (hG : GoodF room last L) {g : S84} (hg : g ∈ L) : (way L g.f0).getLast? = some (rootG L g.f0) ∧ ∃ r ∈ L, r.f0 = rootG L g.f0 := by
 obtain ⟨hc, hl⟩ := hG.way hg
 have h0 := (hG.2.2.2.2.2 g hg).1
 obtain ⟨c', e⟩ := hc.head (by omega)
 have h1 : (way L g.f0).getLast? = some (rootG L g.f0) := by
  unfold rootG
  rw [e]
  cases h : (g.f0 :: c').getLast? with
  | none => simp at h
  | some x => rfl
 exact ⟨h1, way_mem hc (List.mem_of_getLast? h1)⟩
theorem root_node {w : World} {fb tb ts m : Nat} {nb : Int → Nat} {n room : Nat} {last : Int} {L : List S84} (h : FAt w fb tb ts m nb n room last L) (hG : GoodF room last L) {g : S84} (hg : g ∈ L) :
  Calls Try.prog 27 #[.pointer (some ⟨nb g.f0, 0, none⟩)] w fun e w' => e = .returned (.pointer (some ⟨nb (rootG L g.f0), 0, none⟩)) ∧ Below w.heap.size w w' := by
 obtain ⟨hc, hl⟩ := hG.way hg
 obtain ⟨hp, he⟩ := h.path hG.2.2.2.2.1 hc
 have h0 := (hG.2.2.2.2.2 g hg).1
 rw [pOf_pos (by omega)] at he
 have := root_ok (b := nb (rootG L g.f0)) hp (by rw [List.length_map]; omega) (by rw [List.getLast?_map, (rootG_mem hG hg).1]; rfl)
 rw [he] at this
 exact this
theorem forest_Below_ok {w : World} {fb tb ts m : Nat} {nb : Int → Nat} {n room : Nat} {last : Int} {L : List S84} (h : FAt w fb tb ts m nb n room last L) (hG : GoodF room last L) {g t : Int} (wf : (Lit.int .i64 g).wf = true) (wf2 : (Lit.int .i64 t).wf = true) :
  Calls Try.prog 14 #[.pointer (some ⟨fb, 0, none⟩), .int .i64 g, .int .i64 t] w fun e w' => e = .returned (.bool ((fnd L g).isSome && (fnd L t).isSome && decide (t ∈ way L g))) ∧ Below w.heap.size w w' := by
 obtain ⟨f0, f1⟩ := h.facts
 obtain ⟨l1, l2⟩ := h.look2 wf
 obtain ⟨k1, k2⟩ := h.look2 wf2
 have H := Aside0.mk h
 have HG := Aside0.mk hG
 cases hf : fnd L g with
 | none =>
  have l3 := l2 hf
  cases ht : fnd L t with
  | none =>
   have k3 := k2 ht
   clear l1 l2 k1 k2 h hG hf ht
   go_enter Try.func14, Try.ntmps14
   go_wp2_with fail
   go_ret
   exact ⟨rfl, Below.refl _ _⟩
  | some y =>
   have k3 := k1 _ ht
   clear l1 l2 k1 k2 h hG hf ht
   go_enter Try.func14, Try.ntmps14
   go_wp2_with fail
   go_ret
   exact ⟨rfl, Below.refl _ _⟩
 | some x =>
  have l3 := l1 _ hf
  cases ht : fnd L t with
  | none =>
   have k3 := k2 ht
   clear l1 l2 k1 k2 h hG hf ht
   go_enter Try.func14, Try.ntmps14
   go_wp2_with fail
   go_ret
   exact ⟨rfl, Below.refl _ _⟩
  | some y =>
   have k3 := k1 _ ht
   obtain ⟨hx, rfl⟩ := za5 hf
   obtain ⟨hy, rfl⟩ := za5 ht
   have HX := Aside0.mk hx
   have HY := Aside0.mk hy
   clear l1 l2 k1 k2 h hG hf ht hx hy
   go_enter Try.func14, Try.ntmps14
   go_wp2_with fail
   refine (below_nodes H.out HG.out HX.out HY.out).mono ?_
   rintro e w1 ⟨rfl, hb⟩
   have HB := Aside0.mk hb
   clear hb
   go_wp2_with fail
   go_ret
   exact ⟨by simp, HB.out⟩
end Go.Proofs.Ytlmjdchcgfpngaa.P
end
section
namespace Go.Proofs.Ytlmjdchcgfpngaa.P
open Go.RowKit Go.Proofs.YtlmjdchcgfpngaaW.PrintWords Go.Proofs.YtlmjdchcgfpngaaW.PrintLast Go.Proofs.YtlmjdchcgfpngaaW.PrintMore
attribute [local go_sem] zbo zbq zbz zbx zbi zbg zbr zbp
section
open Go.Sort
theorem below_grew {B : Nat} {w0 w : World} (h : Below B w0 w) (hB : B ≤ w.heap.size) (os : Array Obj) : Below B w0 (grow w os) :=
 ⟨h.os, h.tape, h.output, by rw [size_grow]; have := h.size; omega, fun k hk => by rw [heap_grow_old w os (by omega)]; exact h.block k hk⟩
end
def RowC (w : World) (g : Nat) (l : List Int) : Prop := g < w.heap.size ∧ ∀ i, i < l.length → w.cell? ⟨g, i, none⟩ = some (.int .i64 (l.getD i 0)) ∧ w.frozen? ⟨g, i, none⟩ = false
section
open Go.Sort
theorem RowC.holds {w : World} {g : Nat} {l : List Int} (h : RowC w g l) : Holds (Value.int .i64) w g 0 l.toArray := by
 intro j hj
 have hj' : j < l.length := by simpa using hj
 obtain ⟨h1, h2⟩ := h.2 j hj'
 rw [Nat.zero_add]
 refine ⟨?_, h2⟩
 rw [h1]
 simp [hj']
end
section
open Go.Sort
theorem RowC.of_holds {w : World} {g : Nat} {l : List Int} (hg : g < w.heap.size) (h : Holds (Value.int .i64) w g 0 l.toArray) : RowC w g l := by
 refine ⟨hg, fun i hi => ?_⟩
 obtain ⟨h1, h2⟩ := h i (by simpa using hi)
 rw [Nat.zero_add] at h1 h2
 refine ⟨?_, h2⟩
 rw [h1]
 simp [hi]
end
def IntsAt (w : World) (v : Value) (l : List Int) : Prop := ∃ A c, v = .slice A l.length c ∧ l.length ≤ c ∧ Kd.C (Kd.int .i64) w A l.length l
theorem IntsAt.of_row {w : World} {g c : Nat} {l : List Int} (h : RowC w g l) (hl : l.length < 1000000) (hc : l.length ≤ c) : IntsAt w (.slice (some ⟨g, 0, none⟩) l.length c) l := by
 refine ⟨_, _, rfl, hc, rfl, by omega, fun _ => ⟨_, rfl, fun j p hj => ⟨[.int .i64 p], rfl, rfl, fun i u hu => ?_⟩⟩⟩
 match i, hu with
 | 0, hu =>
  have e : (Addr.add ⟨g, 0, none⟩ (j * (Kd.int .i64).sz + 0)) = ⟨g, j, none⟩ := by
   show (Addr.add ⟨g, 0, none⟩ (j * 1 + 0)) = _
   rw [Nat.mul_one, Nat.add_zero, add_plain]
  obtain ⟨hjl, hjp⟩ := List.getElem?_eq_some_iff.1 hj
  rw [e, (h.2 j hjl).1]
  have : l.getD j 0 = p := by simp [hjl, hjp]
  rw [this]
  simpa using hu
theorem IntsAt.below {w w' : World} {v : Value} {l : List Int} (h : IntsAt w v l) (hb : Below w.heap.size w w') : IntsAt w' v l := by
 obtain ⟨A, c, e, hc, hr⟩ := h
 exact ⟨A, c, e, hc, Kd.za0 hr hb⟩
theorem IntsAt.nil (w : World) (A : Option Addr) (c : Nat) : IntsAt w (.slice A 0 c) [] := ⟨A, c, rfl, Nat.zero_le _, rfl, by simp, fun h => absurd h (by simp)⟩
section
open Go.Sort
theorem Sort_own {w : World} {base : Nat} {ok : Nat → Prop} {v : Value} {l : List Int} (h : Kd.R (Kd.int .i64) 3 w base ok v l) (hl : l.length < 1000000) :
  Calls Try.prog 31 #[v] w fun e w' => e = .returned (.tuple #[]) ∧ IntsAt w' v (l.mergeSort fun x y => decide (x ≤ y)) ∧ Below base w w' := by
 have ho := Kd.own_of_R h
 obtain ⟨_, ⟨rfl, h1⟩ | ⟨g, cap, cur, rfl, hg, hh, hn, hmx, hsz, ht⟩⟩ := ho
 ·
  obtain rfl : l = [] := List.eq_nil_of_length_eq_zero h1
  refine (Try.slices_Sort_int_none none 0 w).mono ?_
  rintro e w' ⟨rfl, rfl⟩
  exact ⟨rfl, by simpa using IntsAt.nil w' none 0, Below.refl _ _⟩
 ·
  rw [Nat.mul_one] at ht
  have hr : RowC w g l := by
   refine ⟨zar hh, fun i hi => ⟨?_, zaa hh i⟩⟩
   rw [za hh i]
   have := congrArg (fun z => z[i]?) ht
   simp only [List.getElem?_take_of_lt hi] at this
   rw [← Array.getElem?_toList, this]
   simp [hi, encs]
  refine (Try.slices_Sort_int g 0 cap l w hr.holds hr.1 (by omega)).mono ?_
  rintro e w3 ⟨rfl, n, os, rfl⟩
  have hlen : (l.mergeSort fun x y => decide (x ≤ y)).length = l.length := List.length_mergeSort _
  have hr3 : RowC (grow (putRow (Value.int .i64) (Sort.ahead w n) g 0 (l.mergeSort fun x y => decide (x ≤ y)).toArray) os) g (l.mergeSort fun x y => decide (x ≤ y)) := by
   have hb3 : g < (putRow (Value.int .i64) (Sort.ahead w n) g 0 (l.mergeSort fun x y => decide (x ≤ y)).toArray).heap.size := by
    rw [size_putRow]
    exact hr.1
   refine RowC.of_holds (by rw [size_grow]; omega) (holds_grow _ _ _ _ _ _ hb3 (holds_putRow _ _ _ _ l.toArray _ ?_ (by simp [hlen])))
   exact hr.holds
  have hB3 : Below base w (grow (putRow (Value.int .i64) (Sort.ahead w n) g 0 (l.mergeSort fun x y => decide (x ≤ y)).toArray) os) := by
   have h1 := Lib.below_putRow (enc := Value.int .i64) (q := n) (d := (l.mergeSort fun x y => decide (x ≤ y)).toArray) (Below.refl base w) hg
   exact below_grew h1 (by rw [size_putRow]; show base ≤ w.heap.size; have := hr.1; omega) os
  refine ⟨rfl, ?_, hB3⟩
  have := IntsAt.of_row (c := cap) hr3 (by omega) (by omega)
  rw [hlen] at this
  exact this
end
theorem sort_perm {l l' : List Int} (h : l.Perm l') (hs : l'.Pairwise (· < ·)) : l.mergeSort (fun x y => decide (x ≤ y)) = l' := by
 have tr : ∀ a b c : Int, decide (a ≤ b) = true → decide (b ≤ c) = true → decide (a ≤ c) = true := fun a b c h1 h2 => by simp only [decide_eq_true_eq] at *; omega
 have tot : ∀ a b : Int, (decide (a ≤ b) || decide (b ≤ a)) = true := fun a b => by simp only [Bool.or_eq_true, decide_eq_true_eq]; omega
 refine List.Perm.eq_of_pairwise (le := fun a b => decide (a ≤ b) = true) (fun a b _ _ h1 h2 => ?_) (List.pairwise_mergeSort tr tot l) (hs.imp fun {a b} h => decide_eq_true (by omega)) ((List.mergeSort_perm l _).trans h)
 simp only [decide_eq_true_eq] at h1 h2
 omega
theorem iter_ne {α : Type} {mk : α → Value} {w : World} {b r n cnt base : Nat} {g : Int → Option α} {left : Int → Bool} {ok : Nat → Prop} {v : Value} {l : List Int} (h : RangeAt Try.prog 3 mk w b r n g left cnt) (hk : Kd.R (Kd.int .i64) 3 w base ok v l) : some r ≠ v.ownBlock := by
 intro e
 obtain ⟨inner, ho⟩ := Kd.R_own hk
 obtain ⟨cells, hc⟩ := own_typed ho r e.symm
 obtain ⟨D, l, ⟨es, clock, since, seen, c0, _, _, _, _, hr, _⟩, _⟩ := h
 rw [hr] at hc
 cases hc
theorem RangeAt.grown {α : Type} {P : Program} {kt : TypeId} {mk : α → Value} {w w' : World} {b r n cnt : Nat} {g : Int → Option α} {left : Int → Bool} {row : Option Nat} (h : RangeAt P kt mk w b r n g left cnt) (hg : w.grownBy w' row) (h1 : some b ≠ row) (h2 : some r ≠ row) : RangeAt P kt mk w' b r n g left cnt := by
 obtain ⟨D, l, h, hd⟩ := h
 exact ⟨D, l, h.kept hg h1 h2, hd⟩
theorem RangeAt.ext {α : Type} {P : Program} {kt : TypeId} {mk : α → Value} {w : World} {b r n cnt : Nat} {g g' : Int → Option α} {left : Int → Bool} (h : RangeAt P kt mk w b r n g left cnt) (e : ∀ k, g' k = g k) : RangeAt P kt mk w b r n g' left cnt := by
 rw [show g' = g from funext e]
 exact h
end Go.Proofs.Ytlmjdchcgfpngaa.P
end
section
namespace Go.Proofs.Ytlmjdchcgfpngaa.P
open Go.RowKit Go.Proofs.YtlmjdchcgfpngaaW.PrintWords Go.Proofs.YtlmjdchcgfpngaaW.PrintLast Go.Proofs.YtlmjdchcgfpngaaW.PrintMore
attribute [local go_sem] zbo zbq zbz zbx zbi zbg zbr zbp
theorem put7 {w : World} {b : Nat} {t : TypeId} {x0 x1 x2 x3 x4 x5 x6 y0 y1 y2 y3 y4 y5 y6 : Value} (h : w.heap[b]? = some (.cells #[x0, x1, x2, x3, x4, x5, x6] t (0, 0))) : (((((((w.setCell ⟨b, 0, none⟩ y0).setCell ⟨b, 1, none⟩ y1).setCell ⟨b, 2, none⟩ y2).setCell ⟨b, 3, none⟩ y3).setCell ⟨b, 4, none⟩ y4).setCell ⟨b, 5, none⟩ y5).setCell ⟨b, 6, none⟩ y6).heap[b]? = some (.cells #[y0, y1, y2, y3, y4, y5, y6] t (0, 0)) := by
 have h0 : (w.setCell ⟨b, 0, none⟩ y0).heap[b]? = some (.cells #[y0, x1, x2, x3, x4, x5, x6] t (0, 0)) := zau h 0 y0 rfl
 have h1 : ((w.setCell ⟨b, 0, none⟩ y0).setCell ⟨b, 1, none⟩ y1).heap[b]? = some (.cells #[y0, y1, x2, x3, x4, x5, x6] t (0, 0)) := zau h0 1 y1 rfl
 have h2 : (((w.setCell ⟨b, 0, none⟩ y0).setCell ⟨b, 1, none⟩ y1).setCell ⟨b, 2, none⟩ y2).heap[b]? = some (.cells #[y0, y1, y2, x3, x4, x5, x6] t (0, 0)) := zau h1 2 y2 rfl
 have h3 : ((((w.setCell ⟨b, 0, none⟩ y0).setCell ⟨b, 1, none⟩ y1).setCell ⟨b, 2, none⟩ y2).setCell ⟨b, 3, none⟩ y3).heap[b]? = some (.cells #[y0, y1, y2, y3, x4, x5, x6] t (0, 0)) := zau h2 3 y3 rfl
 have h4 : (((((w.setCell ⟨b, 0, none⟩ y0).setCell ⟨b, 1, none⟩ y1).setCell ⟨b, 2, none⟩ y2).setCell ⟨b, 3, none⟩ y3).setCell ⟨b, 4, none⟩ y4).heap[b]? = some (.cells #[y0, y1, y2, y3, y4, x5, x6] t (0, 0)) := zau h3 4 y4 rfl
 have h5 : ((((((w.setCell ⟨b, 0, none⟩ y0).setCell ⟨b, 1, none⟩ y1).setCell ⟨b, 2, none⟩ y2).setCell ⟨b, 3, none⟩ y3).setCell ⟨b, 4, none⟩ y4).setCell ⟨b, 5, none⟩ y5).heap[b]? = some (.cells #[y0, y1, y2, y3, y4, y5, x6] t (0, 0)) := zau h4 5 y5 rfl
 have h6 : (((((((w.setCell ⟨b, 0, none⟩ y0).setCell ⟨b, 1, none⟩ y1).setCell ⟨b, 2, none⟩ y2).setCell ⟨b, 3, none⟩ y3).setCell ⟨b, 4, none⟩ y4).setCell ⟨b, 5, none⟩ y5).setCell ⟨b, 6, none⟩ y6).heap[b]? = some (.cells #[y0, y1, y2, y3, y4, y5, y6] t (0, 0)) := zau h5 6 y6 rfl
 exact h6
theorem below7 {w0 w : World} {b B : Nat} {y0 y1 y2 y3 y4 y5 y6 : Value} (h : Below B w0 w) (hb : B ≤ b) : Below B w0 (((((((w.setCell ⟨b, 0, none⟩ y0).setCell ⟨b, 1, none⟩ y1).setCell ⟨b, 2, none⟩ y2).setCell ⟨b, 3, none⟩ y3).setCell ⟨b, 4, none⟩ y4).setCell ⟨b, 5, none⟩ y5).setCell ⟨b, 6, none⟩ y6) := by
 have h0 := h.setCell (p := ⟨b, 0, none⟩) hb y0
 have h1 := h0.setCell (p := ⟨b, 1, none⟩) hb y1
 have h2 := h1.setCell (p := ⟨b, 2, none⟩) hb y2
 have h3 := h2.setCell (p := ⟨b, 3, none⟩) hb y3
 have h4 := h3.setCell (p := ⟨b, 4, none⟩) hb y4
 have h5 := h4.setCell (p := ⟨b, 5, none⟩) hb y5
 have h6 := h5.setCell (p := ⟨b, 6, none⟩) hb y6
 exact h6
theorem put7_all {w0 w : World} {b B : Nat} {t : TypeId} {x0 x1 x2 x3 x4 x5 x6 : Value} (y0 y1 y2 y3 y4 y5 y6 : Value) (h : w.heap[b]? = some (.cells #[x0, x1, x2, x3, x4, x5, x6] t (0, 0))) (hB : Below B w0 w) (hb : B ≤ b) : ∃ W, (((((((w.setCell ⟨b, 0, none⟩ y0).setCell ⟨b, 1, none⟩ y1).setCell ⟨b, 2, none⟩ y2).setCell ⟨b, 3, none⟩ y3).setCell ⟨b, 4, none⟩ y4).setCell ⟨b, 5, none⟩ y5).setCell ⟨b, 6, none⟩ y6) = W ∧ W.heap[b]? = some (.cells #[y0, y1, y2, y3, y4, y5, y6] t (0, 0)) ∧ Below B w0 W ∧ B ≤ b :=
 ⟨_, rfl, put7 h, below7 hB hb, hb⟩
theorem alloc_all {w0 w : World} (cs : Array Value) (t : TypeId) (hB : Below w0.heap.size w0 w) : ∃ W, w.alloc (.cells cs t) = W ∧ W.heap[w.heap.size]? = some (.cells cs t (0, 0)) ∧ Below w0.heap.size w0 W ∧ w0.heap.size ≤ w.heap.size :=
 ⟨_, rfl, za6 w _, zad hB _, hB.size⟩
noncomputable def grpV (L : List S84) (id : Int) : Value :=
 match fnd L id with
 | none => .agg #[.int .i64 0, .int .i64 0, .int .i64 0, .int .i64 0, .int .i64 0, .int .i64 0, .int .i64 0]
 | some g => .agg #[.int .i64 g.f0, .int .i64 g.f1, .int .i64 g.f2, .int .i64 ((way L id).length : Nat), .int .i64 (rootG L id), .int .i64 g.f3, .int .i64 g.f4]
def grpE (L : List S84) (id : Int) : Int := if (fnd L id).isSome then 0 else 4
theorem group_ok {w : World} {fb tb ts m : Nat} {nb : Int → Nat} {n room : Nat} {last : Int} {L : List S84} (h : FAt w fb tb ts m nb n room last L) (hG : GoodF room last L) {id : Int} (wf : (Lit.int .i64 id).wf = true) :
  Calls Try.prog 13 #[.pointer (some ⟨fb, 0, none⟩), .int .i64 id] w fun e w' => e = .returned (.tuple #[grpV L id, .int .i64 (grpE L id)]) ∧ Below w.heap.size w w' := by
 have H := Aside0.mk h
 have HG := Aside0.mk hG
 have hal := zad (Below.refl _ w) (.cells #[.int .i64 0, .int .i64 0, .int .i64 0, .int .i64 0, .int .i64 0, .int .i64 0, .int .i64 0] 32)
 have hx := za6 w (.cells #[.int .i64 0, .int .i64 0, .int .i64 0, .int .i64 0, .int .i64 0, .int .i64 0, .int .i64 0] 32)
 have h1 := h.keep hal
 obtain ⟨f0, f1⟩ := h1.facts
 obtain ⟨l1, l2⟩ := h1.look2 wf
 have HAL := Aside0.mk hal
 have HX := Aside0.mk hx
 have y0 := (za hx 0).trans rfl
 have y1 := (za hx 1).trans rfl
 have y2 := (za hx 2).trans rfl
 have y3 := (za hx 3).trans rfl
 have y4 := (za hx 4).trans rfl
 have y5 := (za hx 5).trans rfl
 have y6 := (za hx 6).trans rfl
 have z0 := zaa hx 0
 have z1 := zaa hx 1
 have z2 := zaa hx 2
 have z3 := zaa hx 3
 have z4 := zaa hx 4
 have z5 := zaa hx 5
 have z6 := zaa hx 6
 cases hf : fnd L id with
 | none =>
  have l3 := l2 hf
  rw [show grpV L id = .agg #[.int .i64 0, .int .i64 0, .int .i64 0, .int .i64 0, .int .i64 0, .int .i64 0, .int .i64 0] by unfold grpV; rw [hf], show grpE L id = 4 by unfold grpE; rw [hf]; rfl]
  clear l1 l2 h h1 hG hf hal hx
  go_enter Try.func13, Try.ntmps13
  go_wp2_with fail
  refine bodyPost_ret (zav rfl _ _ w.heap.size 32 #[.int .i64 0, .int .i64 0, .int .i64 0, .int .i64 0, .int .i64 0, .int .i64 0, .int .i64 0] (0, 0) _ rfl HX.out Try.underlying32 rfl (by kernel_rfl)) rfl ?_
  exact ⟨rfl, HAL.out⟩
 | some g =>
  have l3 := l1 g hf
  rw [show grpV L id = .agg #[.int .i64 g.f0, .int .i64 g.f1, .int .i64 g.f2, .int .i64 ((way L id).length : Nat), .int .i64 (rootG L id), .int .i64 g.f3, .int .i64 g.f4] by unfold grpV; rw [hf], show grpE L id = 0 by unfold grpE; rw [hf]; rfl]
  obtain ⟨hg, rfl⟩ := za5 hf
  have H1 := Aside0.mk h1
  have HM := Aside0.mk hg
  clear l1 l2 h h1 hG hf hal hx hg
  go_enter Try.func13, Try.ntmps13
  go_wp2_with fail
  clear f0 f1 l3 y0 y1 y2 y3 y4 y5 y6 z0 z1 z2 z3 z4 z5 z6
  generalize w.alloc (.cells #[.int .i64 0, .int .i64 0, .int .i64 0, .int .i64 0, .int .i64 0, .int .i64 0, .int .i64 0] 32) = W1 at H1 HX HAL ⊢
  have hG := HG.out
  have hg := HM.out
  have h1 := H1.out
  obtain ⟨r, hr, hre⟩ := (rootG_mem hG hg).2
  have HSK : Aside0 (∀ W, Below W1.heap.size W1 W → W.cell? ⟨nb g.f0, 2, none⟩ = some (.int .i64 g.f2) ∧ W.cell? ⟨nb g.f0, 3, none⟩ = some (.int .i64 g.f3) ∧ W.cell? ⟨nb g.f0, 4, none⟩ = some (.int .i64 g.f4) ∧ W.cell? ⟨nb (rootG L g.f0), 0, none⟩ = some (.int .i64 (rootG L g.f0))) := ⟨fun W hW => by
   have q := (h1.keep hW).2.2.2
   have q1 := q g hg
   have q2 := q r hr
   rw [NodeAt, hre] at q2
   exact ⟨(za q1 2).trans rfl, (za q1 3).trans rfl, (za q1 4).trans rfl, (za q2 0).trans rfl⟩⟩
  have HP : Aside0 (∀ W, Below W1.heap.size W1 W → Calls Try.prog 25 #[.pointer (some ⟨nb g.f0, 0, none⟩)] W fun e w' => ∃ A c, e = .returned (.slice A (way L g.f0).length c) ∧ Below W1.heap.size W1 w' ∧ Below W.heap.size W w') := ⟨fun W hW => (path_node (H1.out.keep hW) HG.out HM.out).mono fun e w' ⟨A, c, he, hb⟩ => ⟨A, c, he, zab hW hb, hb⟩⟩
  have HR : Aside0 (∀ W, Below W1.heap.size W1 W → Calls Try.prog 27 #[.pointer (some ⟨nb g.f0, 0, none⟩)] W fun e w' => e = .returned (.pointer (some ⟨nb (rootG L g.f0), 0, none⟩)) ∧ Below W1.heap.size W1 w' ∧ Below W.heap.size W w') := ⟨fun W hW => (root_node (H1.out.keep hW) HG.out HM.out).mono fun e w' ⟨he, hb⟩ => ⟨he, zab hW hb, hb⟩⟩
  have hpar := (hG.2.2.2.2.2 g hg).2.2.1
  generalize hrg : rootG L g.f0 = rg at HSK HR
  generalize hwy : way L g.f0 = wy at HP
  have HRG := Aside0.mk hrg
  have HWY := Aside0.mk hwy
  clear hrg hwy
  obtain ⟨c2, c3, c4, c5⟩ := HSK.out W1 (Below.refl _ _)
  clear hG hg h1 hr hre
  go_region_held3 (fun W => W.cell? ⟨nb g.f0, 2, none⟩ = some (.int .i64 g.f2) ∧ W.cell? ⟨nb g.f0, 3, none⟩ = some (.int .i64 g.f3) ∧ W.cell? ⟨nb g.f0, 4, none⟩ = some (.int .i64 g.f4) ∧ W.cell? ⟨nb rg, 0, none⟩ = some (.int .i64 rg)) (((with_reducible refine HSK.out _ ?_); (repeat (refine Below.setCell ?_ (by first | exact HBa.out.size | exact HBb.out.size | exact Nat.le_refl _) _)); (first | (with_reducible exact HBa.out) | (with_reducible exact HBb.out) | (with_reducible exact zad HBa.out _) | (with_reducible exact zad HBb.out _) | (with_reducible exact (Below.refl _ W1).drew) | (with_reducible exact zad (Below.refl _ W1).drew _) | (with_reducible exact (zad (Below.refl _ W1) _).drew)))) (first | (go_at_call 25; refine (HP.out _ ?_).mono ?_; (first | (with_reducible exact HBa.out) | (with_reducible exact HBb.out) | (with_reducible exact zad HBa.out _) | (with_reducible exact zad HBb.out _) | (with_reducible exact (Below.refl _ W1).drew) | (with_reducible exact zad (Below.refl _ W1).drew _) | (with_reducible exact (zad (Below.refl _ W1) _).drew)); rintro e wa ⟨Ap, cp, rfl, hb, hc⟩; have HBa := Aside0.mk hb; clear hb; (first | (have hbx := (hc.block _ (zar HBX.out)).trans HBX.out; have HBX := Aside0.mk hbx; have yb0 := (za hbx 0).trans rfl; have yb1 := (za hbx 1).trans rfl; have yb2 := (za hbx 2).trans rfl; have yb3 := (za hbx 3).trans rfl; have yb4 := (za hbx 4).trans rfl; have yb5 := (za hbx 5).trans rfl; have yb6 := (za hbx 6).trans rfl; have zb0 := zaa hbx 0; have zb1 := zaa hbx 1; have zb2 := zaa hbx 2; have zb3 := zaa hbx 3; have zb4 := zaa hbx 4; have zb5 := zaa hbx 5; have zb6 := zaa hbx 6; clear hbx hc) | (have hbx := (hc.block _ (zar (za6 _ (.cells #[.int .i64 0, .int .i64 0, .int .i64 0, .int .i64 0, .int .i64 0, .int .i64 0, .int .i64 0] 32)))).trans (za6 _ (.cells #[.int .i64 0, .int .i64 0, .int .i64 0, .int .i64 0, .int .i64 0, .int .i64 0, .int .i64 0] 32)); have HBX := Aside0.mk hbx; have yb0 := (za hbx 0).trans rfl; have yb1 := (za hbx 1).trans rfl; have yb2 := (za hbx 2).trans rfl; have yb3 := (za hbx 3).trans rfl; have yb4 := (za hbx 4).trans rfl; have yb5 := (za hbx 5).trans rfl; have yb6 := (za hbx 6).trans rfl; have zb0 := zaa hbx 0; have zb1 := zaa hbx 1; have zb2 := zaa hbx 2; have zb3 := zaa hbx 3; have zb4 := zaa hbx 4; have zb5 := zaa hbx 5; have zb6 := zaa hbx 6; clear hbx hc) | (have hbx := (hc.block _ (zar (zan (za6 _ (.cells #[.int .i64 0, .int .i64 0, .int .i64 0, .int .i64 0, .int .i64 0, .int .i64 0, .int .i64 0] 32))))).trans (zan (za6 _ (.cells #[.int .i64 0, .int .i64 0, .int .i64 0, .int .i64 0, .int .i64 0, .int .i64 0, .int .i64 0] 32))); have HBX := Aside0.mk hbx; have yb0 := (za hbx 0).trans rfl; have yb1 := (za hbx 1).trans rfl; have yb2 := (za hbx 2).trans rfl; have yb3 := (za hbx 3).trans rfl; have yb4 := (za hbx 4).trans rfl; have yb5 := (za hbx 5).trans rfl; have yb6 := (za hbx 6).trans rfl; have zb0 := zaa hbx 0; have zb1 := zaa hbx 1; have zb2 := zaa hbx 2; have zb3 := zaa hbx 3; have zb4 := zaa hbx 4; have zb5 := zaa hbx 5; have zb6 := zaa hbx 6; clear hbx hc) | clear hc)) | (go_at_call 27; refine (HR.out _ ?_).mono ?_; (first | (with_reducible exact HBa.out) | (with_reducible exact HBb.out) | (with_reducible exact zad HBa.out _) | (with_reducible exact zad HBb.out _) | (with_reducible exact (Below.refl _ W1).drew) | (with_reducible exact zad (Below.refl _ W1).drew _) | (with_reducible exact (zad (Below.refl _ W1) _).drew)); rintro e wb ⟨rfl, hb, hc⟩; have HBb := Aside0.mk hb; clear hb; (first | (have hbx := (hc.block _ (zar HBX.out)).trans HBX.out; have HBX := Aside0.mk hbx; have yb0 := (za hbx 0).trans rfl; have yb1 := (za hbx 1).trans rfl; have yb2 := (za hbx 2).trans rfl; have yb3 := (za hbx 3).trans rfl; have yb4 := (za hbx 4).trans rfl; have yb5 := (za hbx 5).trans rfl; have yb6 := (za hbx 6).trans rfl; have zb0 := zaa hbx 0; have zb1 := zaa hbx 1; have zb2 := zaa hbx 2; have zb3 := zaa hbx 3; have zb4 := zaa hbx 4; have zb5 := zaa hbx 5; have zb6 := zaa hbx 6; clear hbx hc) | (have hbx := (hc.block _ (zar (za6 _ (.cells #[.int .i64 0, .int .i64 0, .int .i64 0, .int .i64 0, .int .i64 0, .int .i64 0, .int .i64 0] 32)))).trans (za6 _ (.cells #[.int .i64 0, .int .i64 0, .int .i64 0, .int .i64 0, .int .i64 0, .int .i64 0, .int .i64 0] 32)); have HBX := Aside0.mk hbx; have yb0 := (za hbx 0).trans rfl; have yb1 := (za hbx 1).trans rfl; have yb2 := (za hbx 2).trans rfl; have yb3 := (za hbx 3).trans rfl; have yb4 := (za hbx 4).trans rfl; have yb5 := (za hbx 5).trans rfl; have yb6 := (za hbx 6).trans rfl; have zb0 := zaa hbx 0; have zb1 := zaa hbx 1; have zb2 := zaa hbx 2; have zb3 := zaa hbx 3; have zb4 := zaa hbx 4; have zb5 := zaa hbx 5; have zb6 := zaa hbx 6; clear hbx hc) | (have hbx := (hc.block _ (zar (zan (za6 _ (.cells #[.int .i64 0, .int .i64 0, .int .i64 0, .int .i64 0, .int .i64 0, .int .i64 0, .int .i64 0] 32))))).trans (zan (za6 _ (.cells #[.int .i64 0, .int .i64 0, .int .i64 0, .int .i64 0, .int .i64 0, .int .i64 0, .int .i64 0] 32))); have HBX := Aside0.mk hbx; have yb0 := (za hbx 0).trans rfl; have yb1 := (za hbx 1).trans rfl; have yb2 := (za hbx 2).trans rfl; have yb3 := (za hbx 3).trans rfl; have yb4 := (za hbx 4).trans rfl; have yb5 := (za hbx 5).trans rfl; have yb6 := (za hbx 6).trans rfl; have zb0 := zaa hbx 0; have zb1 := zaa hbx 1; have zb2 := zaa hbx 2; have zb3 := zaa hbx 3; have zb4 := zaa hbx 4; have zb5 := zaa hbx 5; have zb6 := zaa hbx 6; clear hbx hc) | clear hc)))
  all_goals
   first | (obtain ⟨Wf, hWf, hbf, hBf, hle⟩ := put7_all (.int .i64 g.f0) (.int .i64 (-1)) (.int .i64 g.f2) (.int .i64 (wy.length : Nat)) (.int .i64 rg) (.int .i64 g.f3) (.int .i64 g.f4) HBX.out HBb.out (by first | exact HBa.out.size | exact HBb.out.size | exact Nat.le_refl _); rw [hWf]) | (obtain ⟨Wf, hWf, hbf, hBf, hle⟩ := put7_all (.int .i64 g.f0) (.int .i64 (-1)) (.int .i64 g.f2) (.int .i64 (wy.length : Nat)) (.int .i64 rg) (.int .i64 g.f3) (.int .i64 g.f4) HBX.out HBa.out (by first | exact HBa.out.size | exact HBb.out.size | exact Nat.le_refl _); rw [hWf]) | (obtain ⟨Wf, hWf, hbf, hBf, hle⟩ := alloc_all #[.int .i64 g.f0, .int .i64 (-1), .int .i64 g.f2, .int .i64 (wy.length : Nat), .int .i64 rg, .int .i64 g.f3, .int .i64 g.f4] 32 HBb.out; rw [hWf]) | (obtain ⟨Wf, hWf, hbf, hBf, hle⟩ := alloc_all #[.int .i64 g.f0, .int .i64 (-1), .int .i64 g.f2, .int .i64 (wy.length : Nat), .int .i64 rg, .int .i64 g.f3, .int .i64 g.f4] 32 HBa.out; rw [hWf])
  all_goals
   have HBF := Aside0.mk hBf
   have HWX := Aside0.mk hbf
   clear hWf hBf hbf c2 c3 c4 c5
   try clear yb0 zb0 yb1 zb1 yb2 zb2 yb3 zb3 yb4 zb4 yb5 zb5 yb6 zb6
   have hr0 := (HBF.out.block _ (zar HX.out)).trans HX.out
   have HR0 := Aside0.mk hr0
   have hx0 := HWX.out
   have hlx := Nat.lt_of_lt_of_le (zar HX.out) hle
   have hne1 := Nat.ne_of_gt hlx
   have hne2 := Nat.ne_of_lt hlx
   have HLX := Aside0.mk hlx
   clear hlx hle
   have u0 := (za hx0 0).trans rfl
   have u1 := (za hx0 1).trans rfl
   have u2 := (za hx0 2).trans rfl
   have u3 := (za hx0 3).trans rfl
   have u4 := (za hx0 4).trans rfl
   have u5 := (za hx0 5).trans rfl
   have u6 := (za hx0 6).trans rfl
   have q1 := zaa hx0 1
   have r0 := (za hr0 0).trans rfl
   have r1 := (za hr0 1).trans rfl
   have r2 := (za hr0 2).trans rfl
   have r3 := (za hr0 3).trans rfl
   have r4 := (za hr0 4).trans rfl
   have r5 := (za hr0 5).trans rfl
   have r6 := (za hr0 6).trans rfl
   have s0 := zaa hr0 0
   have s1 := zaa hr0 1
   have s2 := zaa hr0 2
   have s3 := zaa hr0 3
   have s4 := zaa hr0 4
   have s5 := zaa hr0 5
   have s6 := zaa hr0 6
   have hnf := (H1.out.keep HBF.out).2.2.2 g HM.out
   have n1 : Wf.cell? ⟨nb g.f0, 1, none⟩ = some (pOf nb g.f1) := (za hnf 1).trans rfl
   clear hx0 hr0 hnf
   by_cases hroot : g.f1 < 0
   ·
    rw [show pOf nb g.f1 = .pointer none by unfold pOf; rw [if_pos hroot]] at n1
    have he1 : g.f1 = -1 := by omega
    have HE1 := Aside0.mk he1
    clear he1
    go_wp2_with fail
    refine bodyPost_ret (zav rfl _ _ w.heap.size 32 #[.int .i64 g.f0, .int .i64 (-1), .int .i64 g.f2, .int .i64 (wy.length : Nat), .int .i64 rg, .int .i64 g.f3, .int .i64 g.f4] (0, 0) _ rfl (put7 HR0.out) Try.underlying32 rfl (by kernel_rfl)) rfl ?_
    exact ⟨by rw [HE1.out, HWY.out, HRG.out]; rfl, below7 (HAL.out.trans (HBF.out.mono HAL.out.size)) (Nat.le_refl _)⟩
   ·
    have hpin := par_in HG.out HM.out (by omega)
    obtain ⟨pp, hpp, hpe⟩ := hpin
    have hnp := (H1.out.keep HBF.out).2.2.2 pp hpp
    rw [NodeAt, hpe] at hnp
    have n2 : Wf.cell? ⟨nb g.f1, 0, none⟩ = some (.int .i64 g.f1) := (za hnp 0).trans rfl
    rw [show pOf nb g.f1 = .pointer (some ⟨nb g.f1, 0, none⟩) by unfold pOf; rw [if_neg hroot]] at n1
    clear hpp hpe hnp
    go_wp2_with fail
    have HR1 : Aside0 ((Wf.setCell ⟨_, 1, none⟩ (.int .i64 g.f1)).heap[w.heap.size]? = _) := ⟨(Below.heap_setCell Wf _ _ _ hne2).trans HR0.out⟩
    refine bodyPost_ret (zav rfl _ _ w.heap.size 32 #[.int .i64 g.f0, .int .i64 g.f1, .int .i64 g.f2, .int .i64 (wy.length : Nat), .int .i64 rg, .int .i64 g.f3, .int .i64 g.f4] (0, 0) _ rfl (put7 HR1.out) Try.underlying32 rfl (by kernel_rfl)) rfl ?_
    exact ⟨by rw [HWY.out, HRG.out]; rfl, below7 ((HAL.out.trans (HBF.out.mono HAL.out.size)).setCell (Nat.le_of_lt HLX.out) _) (Nat.le_refl _)⟩
theorem forest_New_ok (m : Nat) (h1 : 1 ≤ m) (h2 : m ≤ 64) (w : World) :
  Calls Try.prog 9 #[.int .i64 (m : Int)] w fun e w' => ∃ fb tb ts mb, e = .returned (.tuple #[.pointer (some ⟨fb, 0, none⟩), .int .i64 0]) ∧ w.heap.size ≤ fb ∧ w.heap.size ≤ tb ∧ w.heap.size ≤ ts ∧ w.heap.size ≤ mb ∧ FAt w' fb tb ts mb (fun _ => 0) 0 m 0 [] ∧ Below w.heap.size w w' := by
 have hmm := @run_makeMap Try.prog
 go_enter Try.func9, Try.ntmps9
 go_wp2_with fail
 go_at_call 22
 refine (tabF_New m h1 h2 w).mono ?_
 rintro e w1 ⟨b, s, rfl, hb, hs, ht, hw⟩
 have HT := Aside0.mk ht
 have HW := Aside0.mk hw
 have hz := hw.size
 clear ht hw
 go_wp2_with fail
 go_ret2
 refine ⟨w1.heap.size + 1, b, s, w1.heap.size, by simp, by omega, hb, hs, hz, ⟨?_, ?_, ?_, fun g hg => by cases hg⟩, zad (zad HW.out _) _⟩
 ·
  have := za6 (w1.alloc (.map #[] 0)) (.cells #[.pointer (some ⟨b, 0, none⟩), .map (some w1.heap.size)] 62)
  rw [show (w1.alloc (.map #[] 0)).heap.size = w1.heap.size + 1 by simp] at this
  exact this
 ·
  exact HT.out.blocks ((zad (zad (Below.refl _ w1) _) _).block _ HT.out.lt.1) ((zad (zad (Below.refl _ w1) _) _).block _ HT.out.lt.2)
 ·
  exact ((MapAt.made Try.prog 3 mkP w1).keep (zad (Below.refl _ _) _)).ext fun k => rfl
theorem asc_nodup {L : List S84} (h : Asc L) : (L.map (·.f0)).Nodup := (List.pairwise_map.2 h).imp fun {a b} h => Int.ne_of_lt h
theorem put_full {w : World} {fb tb ts m : Nat} {nb : Int → Nat} {n room : Nat} {last : Int} {L : List S84} (h : FAt w fb tb ts m nb n room last L) (hl : L.length = room) (v : Value) (wt : Int) :
  Calls Try.prog 23 #[.pointer (some ⟨fb, 0, none⟩), v, .int .i64 wt] w fun e w' => e = .returned (.tuple #[.int .i64 0, .int .i64 6]) ∧ Below w.heap.size w w' := by
 obtain ⟨f0, f1⟩ := h.facts
 have HT := Aside0.mk h.2.1
 clear h
 go_enter Try.func23, Try.ntmps23
 go_wp2_with fail
 go_at_call 50
 refine (tabF_full HT.out (by rw [List.length_map]; exact hl)).mono ?_
 rintro e w1 ⟨rfl, hd⟩
 have HD := Aside0.mk hd.below
 clear hd
 go_wp2_with fail
 go_ret2
 exact ⟨rfl, HD.out⟩
theorem FAt.more {w w4 : World} {fb tb ts m : Nat} {nb : Int → Nat} {n n' room : Nat} {last : Int} {L : List S84} (h : FAt w fb tb ts m nb n room last L) (hG : GoodF room last L) {p wt : Int} (hp : p = -1 ∨ ∃ g ∈ L, g.f0 = p) {b : Nat} (hb : w.heap.size ≤ b)
  (hfb : w4.heap[fb]? = w.heap[fb]?) (ht : TabF w4 tb ts room (last + 1) (L.map (·.f0) ++ [last + 1])) (hm : MapAt Try.prog 3 mkP w4 m n' (fun j => if j = last + 1 then some b else (fnd L j).map fun _ => nb j))
  (hnew : w4.heap[b]? = some (nodeV (last + 1) (pOf nb p) wt 0 0 0 0)) (hn : ∀ y ∈ L, w4.heap[nb y.f0]? = some (nodeV y.f0 (pOf nb y.f1) y.f2 y.f3 y.f4 (act L y.f0) (kid L y.f0 + if p = y.f0 then 1 else 0))) :
  FAt w4 fb tb ts m (fun i => if i = last + 1 then b else nb i) n' room (last + 1) (L ++ [⟨last + 1, p, wt, 0, 0⟩]) := by
 have hfr : fnd L (last + 1) = none := fnd_fresh hG (by omega)
 have hple : p ≤ last := by
  rcases hp with rfl | ⟨g, hg, rfl⟩
  ·
   have := hG.2.2.1
   omega
  ·
   exact (hG.2.2.2.2.2 g hg).2.1
 have hpo : ∀ q : Int, q ≤ last → pOf (fun i => if i = last + 1 then b else nb i) q = pOf nb q := fun q hq => by
  unfold pOf
  split
  ·
   rfl
  ·
   dsimp only
   rw [if_neg (by omega)]
 refine ⟨hfb.trans h.1, by rw [List.map_append]; exact ht, hm.ext fun k => ?_, fun y hy => ?_⟩
 ·
  rw [fnd_app (a := ⟨last + 1, p, wt, 0, 0⟩) hfr]
  dsimp only
  split
  ·
   rfl
  ·
   rfl
 ·
  rcases List.mem_append.1 hy with hy | hy
  ·
   have hyl := (hG.2.2.2.2.2 y hy).2.1
   have hpl : y.f1 ≤ last := by
    by_cases h0 : 0 ≤ y.f1
    ·
     obtain ⟨z, hz, e⟩ := par_in hG hy h0
     rw [← e]
     exact (hG.2.2.2.2.2 z hz).2.1
    ·
     have := hG.2.2.1
     omega
   unfold NodeAt
   dsimp only
   rw [if_neg (by omega), hpo _ hpl, act_app hG (a := ⟨last + 1, p, wt, 0, 0⟩) hfr rfl, kid_app]
   exact hn y hy
  ·
   obtain rfl := List.mem_singleton.1 hy
   unfold NodeAt
   dsimp only
   rw [if_pos rfl, hpo _ hple, act_app hG (a := ⟨last + 1, p, wt, 0, 0⟩) hfr rfl, kid_app, act_fresh hG (by omega), kid_fresh hG (by omega), if_neg (by dsimp only; omega)]
   exact hnew
theorem put_ok {w : World} {fb tb ts m : Nat} {nb : Int → Nat} {n room : Nat} {last : Int} {L : List S84} (h : FAt w fb tb ts m nb n room last L) (hG : GoodF room last L) (hl : L.length < room) (hnn : n < 1000000) {p : Int} (wt : Int) (hp : p = -1 ∨ ∃ g ∈ L, g.f0 = p) :
  Calls Try.prog 23 #[.pointer (some ⟨fb, 0, none⟩), pOf nb p, .int .i64 wt] w fun e w' => ∃ b, e = .returned (.tuple #[.int .i64 (last + 1), .int .i64 0]) ∧ w.heap.size ≤ b ∧ b < w'.heap.size ∧ FAt w' fb tb ts m (fun i => if i = last + 1 then b else nb i) (n + 1) room (last + 1) (L ++ [⟨last + 1, p, wt, 0, 0⟩]) ∧ Wr (FS fb tb ts m nb L) w w' := by
 obtain ⟨f0, f1⟩ := h.facts
 have H := Aside0.mk h
 have HG := Aside0.mk hG
 have HP := Aside0.mk hp
 obtain ⟨_, _, hl0, hl1, _⟩ := hG
 clear h hp
 go_enter Try.func23, Try.ntmps23
 go_wp2_with fail
 go_at_call 50
 refine (tabF_AddW H.out.2.1 (by rw [List.length_map]; exact hl) (by omega)).mono ?_
 rintro e w1 ⟨i, rfl, ht, hw⟩
 have ha2 := H.out.apart2
 have htne := H.out.2.1.ne
 have hsz := hw.size
 have hfb1 : w1.heap[fb]? = w.heap[fb]? := hw.2 fb (H.out.lt (.inl rfl)) (fun hh => by rcases hh with e | e; exact ha2.1 e; exact ha2.2.1 e)
 have hm1 : w1.heap[m]? = w.heap[m]? := hw.2 m (H.out.lt (.inr (.inr (.inr (.inl rfl))))) (fun hh => by rcases hh with e | e; exact ha2.2.2.2.1 e.symm; exact ha2.2.2.2.2 e.symm)
 have hn1 : ∀ y ∈ L, w1.heap[nb y.f0]? = w.heap[nb y.f0]? := fun y hy => hw.2 _ (H.out.lt (.inr (.inr (.inr (.inr ⟨y, hy, rfl⟩))))) (fun hh => by
  obtain ⟨_, a2, a3, _⟩ := H.out.apart hy
  rcases hh with e | e
  ·
   exact a2 e
  ·
   exact a3 e)
 have hF1 := hfb1.trans H.out.1
 obtain ⟨D, ⟨es, clock, hes, hes'⟩, hD⟩ := H.out.2.2.1
 have hM1 : MapAt Try.prog 3 mkP w1 m n (fun id => (fnd L id).map fun _ => nb id) := ⟨D, ⟨es, clock, hm1.trans hes, hes'⟩, hD⟩
 clear hes hes' hD
 have hx := za6 w1 (.cells #[.int .i64 (last + 1), pOf nb p, .int .i64 wt, .int .i64 0, .int .i64 0, .int .i64 0, .int .i64 0] 71)
 have hal := zad (Below.refl _ w1) (.cells #[.int .i64 (last + 1), pOf nb p, .int .i64 wt, .int .i64 0, .int .i64 0, .int .i64 0, .int .i64 0] 71)
 have hmx : maxLen = 9223372036854775807 := rfl
 obtain ⟨w3, s1, s2, s3⟩ := (hM1.keep hal).store (t := 60) (e := 64) mkP_inj Try.underlying3 Try.underlying60 (by omega) (k := last + 1) (wf_i64 (by omega) (by omega)) w1.heap.size
 have s1' : (Instr.mapUpdate 60 (.map (some m)) (.int .i64 (last + 1)) (.pointer (some ⟨w1.heap.size, 0, none⟩))).run Try.prog (w1.alloc (.cells #[.int .i64 (last + 1), pOf nb p, .int .i64 wt, .int .i64 0, .int .i64 0, .int .i64 0, .int .i64 0] 71)) = .ok () w3 := s1
 have hml : m < w1.heap.size := Nat.lt_of_lt_of_le (H.out.lt (.inr (.inr (.inr (.inl rfl))))) hsz
 have hblk : ∀ k, k < w1.heap.size → k ≠ m → w3.heap[k]? = w1.heap[k]? := fun k hk hkm => by
  obtain ⟨es, clock, es', clock', hb, rfl⟩ := s3
  rw [ChangeMaps.heap_setBlock_other hb _ hkm]
  exact hal.block k hk
 have hx3 : w3.heap[w1.heap.size]? = some (nodeV (last + 1) (pOf nb p) wt 0 0 0 0) := by
  obtain ⟨es, clock, es', clock', hb, rfl⟩ := s3
  rw [ChangeMaps.heap_setBlock_other hb _ (by omega)]
  exact hx
 have hW3 : Wr (FS fb tb ts m nb L) w w3 := ((hw.mono fun k hk => by rcases hk with rfl | rfl; exact .inr (.inl rfl); exact .inr (.inr (.inl rfl))).step hal).turned s3 (.inl (.inr (.inr (.inr (.inl rfl)))))
 have hsz3 : w1.heap.size < w3.heap.size := zar hx3
 have hf3 := (hblk fb (Nat.lt_of_lt_of_le (H.out.lt (.inl rfl)) hsz) ha2.2.2.1).trans hF1
 have hT3 := ht.blocks (hblk tb (Nat.lt_of_lt_of_le (H.out.lt (.inr (.inl rfl))) hsz) ha2.2.2.2.1) (hblk ts (Nat.lt_of_lt_of_le (H.out.lt (.inr (.inr (.inl rfl)))) hsz) ha2.2.2.2.2)
 have hN3 : ∀ y ∈ L, w3.heap[nb y.f0]? = some (nodeV y.f0 (pOf nb y.f1) y.f2 y.f3 y.f4 (act L y.f0) (kid L y.f0)) := fun y hy =>
  (hblk _ (Nat.lt_of_lt_of_le (H.out.lt (.inr (.inr (.inr (.inr ⟨y, hy, rfl⟩))))) hsz) (H.out.apart hy).2.2.2).trans ((hn1 y hy).trans (H.out.2.2.2 y hy))
 have f2 : w1.cell? ⟨fb, 1, none⟩ = some (.map (some m)) := (za hF1 1).trans rfl
 have f3 : (w1.alloc (.cells #[.int .i64 (last + 1), pOf nb p, .int .i64 wt, .int .i64 0, .int .i64 0, .int .i64 0, .int .i64 0] 71)).cell? ⟨fb, 1, none⟩ = some (.map (some m)) := (za ((hal.block _ (zar hF1)).trans hF1) 1).trans rfl
 have HX3 := Aside0.mk hx3
 have HW3 := Aside0.mk hW3
 have HF3 := Aside0.mk (hblk fb (Nat.lt_of_lt_of_le (H.out.lt (.inl rfl)) hsz) ha2.2.2.1 |>.trans hfb1)
 have HT3 := Aside0.mk hT3
 have HN3 := Aside0.mk hN3
 have HM3 := Aside0.mk s2
 have HSZ := Aside0.mk hsz
 have HS3 := Aside0.mk hsz3
 have HAL := Aside0.mk hal
 clear s1 s2 s3 hblk hx3 hW3 hf3 hT3 hN3 hF1 hM1 hx hal hn1 hm1 hfb1 ht hw ha2 htne hml hmx D
 rcases HP.out with rfl | ⟨q, hq, hqp⟩
 ·
  have hpo : pOf nb (-1) = .pointer none := by rfl
  rw [hpo] at f3 s1' ⊢
  go_wp2_with fail
  go_ret2
  refine ⟨w1.heap.size, rfl, HSZ.out, HS3.out, H.out.more HG.out (.inl rfl) HSZ.out HF3.out HT3.out HM3.out HX3.out (fun y hy => ?_), HW3.out⟩
  rw [if_neg (by have := (HG.out.2.2.2.2.2 y hy).1; omega), Int.add_zero]
  exact HN3.out y hy
 ·
  subst hqp
  have hq1 := HG.out.2.2.2.2.2 q hq
  have hk1 := zba L q.f0
  have hpo : pOf nb q.f0 = .pointer (some ⟨nb q.f0, 0, none⟩) := pOf_pos (by have := hq1.1; omega)
  have hk2 : kid L q.f0 ≤ 32 := by
   have := hq1.2.2.2.2.2.1
   have := hq1.2.2.2.2.2.2.1
   have := hq1.2.2.2.2.2.2.2
   omega
  have hnq := HN3.out q hq
  have c6 : w3.cell? ⟨nb q.f0, 6, none⟩ = some (.int .i64 (kid L q.f0)) := (za hnq 6).trans rfl
  have z6 := zaa hnq 6
  have wl : wrap64 (kid L q.f0 + 1) = kid L q.f0 + 1 := w64s (by omega) (by omega)
  have HQ := Aside0.mk hq
  have hqlt := H.out.lt (.inr (.inr (.inr (.inr ⟨q, hq, rfl⟩))))
  rw [hpo] at f3 s1' ⊢
  clear hq hq1 hnq hk1 hk2
  go_wp2_with fail
  go_ret2
  have ha := H.out.apart HQ.out
  have ha' := HSZ.out
  refine ⟨w1.heap.size, rfl, HSZ.out, by rw [World.size_setCell]; exact HS3.out, H.out.more HG.out (.inr ⟨q, HQ.out, rfl⟩) HSZ.out ?_ (HT3.out.blocks (Below.heap_setCell _ _ _ _ ha.2.1.symm) (Below.heap_setCell _ _ _ _ ha.2.2.1.symm)) (HM3.out.set ha.2.2.2.symm _) ?_ (fun y hy => ?_), HW3.out.set (.inl (.inr (.inr (.inr (.inr ⟨q, HQ.out, rfl⟩))))) _⟩
  ·
   rw [Below.heap_setCell _ _ _ _ ha.1.symm]
   exact HF3.out
  ·
   rw [Below.heap_setCell _ _ _ _ (show w1.heap.size ≠ nb q.f0 by omega)]
   exact HX3.out
  ·
   by_cases e : q.f0 = y.f0
   ·
    obtain rfl := HG.out.2.2.2.2.1.inj HQ.out hy e
    rw [if_pos rfl]
    exact zau (HN3.out q hy) 6 _ rfl
   ·
    rw [if_neg e, Int.add_zero, Below.heap_setCell _ _ _ _ (fun e2 => e (H.out.inj hy HQ.out e2).symm)]
    exact HN3.out y hy
def rootF (room : Nat) (last : Int) (L : List S84) : Int × List S84 × Int × Int := if L.length = room then (last, L, 0, 6) else (last + 1, L ++ [⟨last + 1, -1, 1, 0, 0⟩], last + 1, 0)
noncomputable def addF (room : Nat) (last : Int) (L : List S84) (p wt : Int) : Int × List S84 × Int × Int :=
 match fnd L p with
 | none => (last, L, 0, 4)
 | some g => if wt < 1 ∨ 10000 < wt then (last, L, 0, 13) else if (way L p).length = 8 then (last, L, 0, 7) else if kid L p + g.f3 = 32 ∨ L.length = room then (last, L, 0, 6) else (last + 1, L ++ [⟨last + 1, p, wt, 0, 0⟩], last + 1, 0)
theorem addF_none {room : Nat} {last : Int} {L : List S84} {p wt : Int} (h : fnd L p = none) : addF room last L p wt = (last, L, 0, 4) := by
 unfold addF
 rw [h]
theorem addF_some {room : Nat} {last : Int} {L : List S84} {p wt : Int} {g : S84} (h : fnd L p = some g) : addF room last L p wt = if wt < 1 ∨ 10000 < wt then (last, L, 0, 13) else if (way L p).length = 8 then (last, L, 0, 7) else if kid L p + g.f3 = 32 ∨ L.length = room then (last, L, 0, 6) else (last + 1, L ++ [⟨last + 1, p, wt, 0, 0⟩], last + 1, 0) := by
 unfold addF
 rw [h]
theorem rootF_good {room : Nat} {last : Int} {L : List S84} (hG : GoodF room last L) (h9 : last < 99999) : GoodF room (rootF room last L).1 (rootF room last L).2.1 ∧ last ≤ (rootF room last L).1 ∧ (rootF room last L).1 ≤ last + 1 := by
 unfold rootF
 have := hG.2.1
 split
 ·
  exact ⟨hG, Int.le_refl _, by dsimp only; omega⟩
 ·
  exact ⟨hG.app (by omega) h9 (by omega) (.inl rfl), by dsimp only; omega, Int.le_refl _⟩
theorem addF_good {room : Nat} {last : Int} {L : List S84} (hG : GoodF room last L) (h9 : last < 99999) (p wt : Int) : GoodF room (addF room last L p wt).1 (addF room last L p wt).2.1 ∧ last ≤ (addF room last L p wt).1 ∧ (addF room last L p wt).1 ≤ last + 1 := by
 have hlr := hG.2.1
 cases hf : fnd L p with
 | none =>
  rw [addF_none hf]
  exact ⟨hG, Int.le_refl _, by dsimp only; omega⟩
 | some g =>
  rw [addF_some hf]
  obtain ⟨hg, rfl⟩ := za5 hf
  have hw := (hG.way hg).2
  obtain ⟨g1, g2, g3, g4, g5, g6, g7, g8⟩ := hG.2.2.2.2.2 g hg
  split
  ·
   exact ⟨hG, Int.le_refl _, by dsimp only; omega⟩
  ·
   split
   ·
    exact ⟨hG, Int.le_refl _, by dsimp only; omega⟩
   ·
    split
    ·
     exact ⟨hG, Int.le_refl _, by dsimp only; omega⟩
    ·
     exact ⟨hG.app (by omega) h9 (by omega) (.inr ⟨g, hg, rfl, by omega, by omega⟩), by dsimp only; omega, Int.le_refl _⟩
theorem FS.more {w : World} {fb tb ts m b : Nat} {nb : Int → Nat} {room : Nat} {last : Int} {L : List S84} (hG : GoodF room last L) (hb : w.heap.size ≤ b) {p wt : Int} {k : Nat} (h : FS fb tb ts m (fun i => if i = last + 1 then b else nb i) (L ++ [⟨last + 1, p, wt, 0, 0⟩]) k) : FS fb tb ts m nb L k ∨ w.heap.size ≤ k := by
 rcases h with h | h | h | h | ⟨g, hg, rfl⟩
 ·
  exact .inl (.inl h)
 ·
  exact .inl (.inr (.inl h))
 ·
  exact .inl (.inr (.inr (.inl h)))
 ·
  exact .inl (.inr (.inr (.inr (.inl h))))
 ·
  rcases List.mem_append.1 hg with hg | hg
  ·
   have := (hG.2.2.2.2.2 g hg).2.1
   dsimp only
   rw [if_neg (by omega)]
   exact .inl (.inr (.inr (.inr (.inr ⟨g, hg, rfl⟩))))
  ·
   obtain rfl := List.mem_singleton.1 hg
   dsimp only
   rw [if_pos rfl]
   exact .inr hb
theorem forest_Root_ok {w : World} {fb tb ts m : Nat} {nb : Int → Nat} {n room : Nat} {last : Int} {L : List S84} (h : FAt w fb tb ts m nb n room last L) (hG : GoodF room last L) (hnn : n < 1000000) :
  Calls Try.prog 10 #[.pointer (some ⟨fb, 0, none⟩)] w fun e w' => ∃ nb', e = .returned (.tuple #[.int .i64 (rootF room last L).2.2.1, .int .i64 (rootF room last L).2.2.2]) ∧ FAt w' fb tb ts m nb' (n + 1) room (rootF room last L).1 (rootF room last L).2.1 ∧ Wr (FS fb tb ts m nb L) w w' ∧ ∀ k, FS fb tb ts m nb' (rootF room last L).2.1 k → FS fb tb ts m nb L k ∨ w.heap.size ≤ k := by
 have H := Aside0.mk h
 have HG := Aside0.mk hG
 have hlr := hG.2.1
 clear h hG
 unfold rootF
 by_cases hl : L.length = room
 ·
  rw [if_pos hl]
  go_enter Try.func10, Try.ntmps10
  go_wp2_with fail
  go_at_call 23
  refine (put_full H.out hl _ _).mono ?_
  rintro e w1 ⟨rfl, hb⟩
  have HB := Aside0.mk hb
  clear hb
  go_wp2_with fail
  go_ret2
  exact ⟨nb, rfl, (H.out.keep HB.out).mono (Nat.le_succ _), Wr.of_below HB.out, fun k hk => .inl hk⟩
 ·
  rw [if_neg hl]
  go_enter Try.func10, Try.ntmps10
  go_wp2_with fail
  go_at_call 23
  refine (put_ok H.out HG.out (by omega) hnn (p := -1) 1 (.inl rfl)).mono ?_
  rintro e w1 ⟨b, rfl, hb, _, hF, hW⟩
  have HF := Aside0.mk hF
  have HW := Aside0.mk hW
  clear hF hW
  go_wp2_with fail
  go_ret2
  exact ⟨_, rfl, HF.out, HW.out, fun k hk => FS.more HG.out hb hk⟩
theorem forest_Add_ok {w : World} {fb tb ts m : Nat} {nb : Int → Nat} {n room : Nat} {last : Int} {L : List S84} (h : FAt w fb tb ts m nb n room last L) (hG : GoodF room last L) (hnn : n < 1000000) {p : Int} (wt : Int) (wf : (Lit.int .i64 p).wf = true) :
  Calls Try.prog 11 #[.pointer (some ⟨fb, 0, none⟩), .int .i64 p, .int .i64 wt] w fun e w' => ∃ nb', e = .returned (.tuple #[.int .i64 (addF room last L p wt).2.2.1, .int .i64 (addF room last L p wt).2.2.2]) ∧ FAt w' fb tb ts m nb' (n + 1) room (addF room last L p wt).1 (addF room last L p wt).2.1 ∧ Wr (FS fb tb ts m nb L) w w' ∧ ∀ k, FS fb tb ts m nb' (addF room last L p wt).2.1 k → FS fb tb ts m nb L k ∨ w.heap.size ≤ k := by
 obtain ⟨f0, f1⟩ := h.facts
 obtain ⟨l1, l2⟩ := h.look2 wf
 have H := Aside0.mk h
 have HG := Aside0.mk hG
 have hlr := hG.2.1
 cases hf : fnd L p with
 | none =>
  have l3 := l2 hf
  rw [addF_none hf]
  clear l1 l2 h hG hf
  go_enter Try.func11, Try.ntmps11
  go_wp2_with fail
  go_ret2
  exact ⟨nb, rfl, H.out.mono (Nat.le_succ _), Wr.refl _ _, fun k hk => .inl hk⟩
 | some g =>
  have l3 := l1 g hf
  have hS := addF_some (room := room) (last := last) (wt := wt) hf
  obtain ⟨hg, rfl⟩ := za5 hf
  have HM := Aside0.mk hg
  obtain ⟨g1, g2, g3, _, g5, g6, g7, g8⟩ := hG.2.2.2.2.2 g hg
  have k0 := zba L g.f0
  have hway := (hG.way hg).2
  clear l1 l2 h hG hf hg
  by_cases hw : 1 ≤ wt ∧ wt ≤ 10000
  ·
   rw [if_neg (by omega)] at hS
   have HS := Aside0.mk hS
   clear hS
   have d1 : decide (1 ≤ wt ∧ wt ≤ 10000) = true := decide_eq_true hw
   go_enter Try.func11, Try.ntmps11
   go_wp2_with fail
   go_at_call 24
   refine (right_ok wt w).mono ?_
   rw [d1]
   rintro e w1 ⟨rfl, rfl⟩
   go_wp2_with fail
   go_at_call 25
   refine (path_node H.out HG.out HM.out).mono ?_
   rintro e w2 ⟨A2, c2, rfl, hb2⟩
   have HB2 := Aside0.mk hb2
   have HN2 := Aside0.mk ((H.out.keep hb2).2.2.2 g HM.out)
   clear hb2
   by_cases hd : (way L g.f0).length = 8
   ·
    have d2 : (((way L g.f0).length : Int) == 8) = true := by simp [hd]
    have HA := Aside0.mk (HS.out.trans (if_pos hd))
    generalize (way L g.f0).length = wl at d2 ⊢
    go_wp2_with fail
    go_ret2
    rw [HA.out]
    exact ⟨nb, rfl, (H.out.keep HB2.out).mono (Nat.le_succ _), Wr.of_below HB2.out, fun k hk => .inl hk⟩
   ·
    have d2 : (((way L g.f0).length : Int) == 8) = false := beq_eq_false_iff_ne.mpr (by omega)
    have HT := Aside0.mk (HS.out.trans (if_neg hd))
    generalize (way L g.f0).length = wl at d2 ⊢
    go_wp2_with fail
    go_at_call 26
    refine (fan_ok HN2.out (by omega)).mono ?_
    rintro e w3 ⟨rfl, hb3⟩
    have HB3 := Aside0.mk (zab HB2.out hb3)
    clear hb3
    by_cases hfan : kid L g.f0 + g.f3 = 32
    ·
     have d3 : (kid L g.f0 + g.f3 == 32) = true := beq_iff_eq.mpr hfan
     have HA := Aside0.mk (HT.out.trans (if_pos (.inl hfan)))
     clear hfan
     go_wp2_with fail
     go_ret2
     rw [HA.out]
     exact ⟨nb, rfl, (H.out.keep HB3.out).mono (Nat.le_succ _), Wr.of_below HB3.out, fun k hk => .inl hk⟩
    ·
     have d3 : (kid L g.f0 + g.f3 == 32) = false := beq_eq_false_iff_ne.mpr hfan
     have hpo : pOf nb g.f0 = .pointer (some ⟨nb g.f0, 0, none⟩) := pOf_pos (by omega)
     by_cases hl : L.length = room
     ·
      have HA := Aside0.mk (HT.out.trans (if_pos (.inr hl)))
      go_wp2_with fail
      go_at_call 23
      refine (put_full (H.out.keep HB3.out) hl _ _).mono ?_
      rintro e w4 ⟨rfl, hb4⟩
      have HB4 := Aside0.mk (zab HB3.out hb4)
      clear hb4
      go_wp2_with fail
      go_ret2
      rw [HA.out]
      exact ⟨nb, rfl, (H.out.keep HB4.out).mono (Nat.le_succ _), Wr.of_below HB4.out, fun k hk => .inl hk⟩
     ·
      have HA := Aside0.mk (HT.out.trans (if_neg (fun hh => hh.elim hfan hl)))
      go_wp2_with fail
      go_at_call 23
      have hput := put_ok (H.out.keep HB3.out) HG.out (by omega) hnn (p := g.f0) wt (.inr ⟨g, HM.out, rfl⟩)
      rw [hpo] at hput
      refine hput.mono ?_
      rintro e w4 ⟨b, rfl, hb, _, hF, hW⟩
      have HF := Aside0.mk hF
      have HW := Aside0.mk ((Wr.of_below (S := FS fb tb ts m nb L) HB3.out).trans hW fun k hk => .inl hk)
      have HBB := Aside0.mk (Nat.le_trans HB3.out.size hb)
      clear hF hW hb hput
      go_wp2_with fail
      go_ret2
      rw [HA.out]
      exact ⟨_, rfl, HF.out, HW.out, fun k hk => FS.more HG.out HBB.out hk⟩
  ·
   rw [if_pos (by omega)] at hS
   have HA := Aside0.mk hS
   clear hS
   have d1 : decide (1 ≤ wt ∧ wt ≤ 10000) = false := decide_eq_false hw
   go_enter Try.func11, Try.ntmps11
   go_wp2_with fail
   go_at_call 24
   refine (right_ok wt w).mono ?_
   rw [d1]
   rintro e w1 ⟨rfl, rfl⟩
   go_wp2_with fail
   go_ret2
   rw [HA.out]
   exact ⟨nb, rfl, H.out.mono (Nat.le_succ _), Wr.refl _ _, fun k hk => .inl hk⟩
def HighP (L : List S84) (t : Int) (seen : S84 → Prop) (r : Int) : Prop :=
 0 ≤ r ∧ r ≤ 9 ∧ (∀ y ∈ L, seen y → t ∈ way L y.f0 → ((way L y.f0).length : Int) - (way L t).length + 1 ≤ r) ∧ (r = 0 ∨ ∃ y ∈ L, t ∈ way L y.f0 ∧ r = ((way L y.f0).length : Int) - (way L t).length + 1)
theorem high_ok {w : World} {fb tb ts m : Nat} {nb : Int → Nat} {n room : Nat} {last : Int} {L : List S84} (h : FAt w fb tb ts m nb n room last L) (hG : GoodF room last L) {t : S84} (ht : t ∈ L) :
  Calls Try.prog 29 #[.pointer (some ⟨fb, 0, none⟩), .pointer (some ⟨nb t.f0, 0, none⟩)] w fun e w' => ∃ r : Int, e = .returned (.int .i64 r) ∧ HighP L t.f0 (fun _ => True) r ∧ Below w.heap.size w w' := by
 obtain ⟨f0, f1⟩ := h.facts
 obtain ⟨w2, cnt, s1, s2, s3, s4⟩ := h.2.2.1.range (t := 60) (e := 64) Try.underlying3 Try.underlying60
 have H := Aside0.mk h
 have HG := Aside0.mk hG
 have HM := Aside0.mk ht
 have S2 := Aside0.mk s2
 have S3 := Aside0.mk s3
 have hwt := (hG.way ht).2
 clear h hG ht s2 s3
 go_enter Try.func29, Try.ntmps29
 go_wp2_with fail
 clear s1 f0 f1
 go_loopg [5] cnt (fun gk v5 w' => ∃ (left : Int → Bool) (r : Int), v5 = .int .i64 r ∧ Aside0 (RangeAt Try.prog 3 mkP w' m w.heap.size n (fun id => (fnd L id).map fun _ => nb id) left gk) ∧ Aside0 (Below w.heap.size w w') ∧ Aside0 (HighP L t.f0 (fun y => left y.f0 = false) r))
 case atStart =>
  refine ⟨_, 0, rfl, S2, S3, ⟨Int.le_refl _, by decide, fun y hy hl => ?_, .inl rfl⟩⟩
  have hl' : ((fnd L y.f0).map fun _ => nb y.f0).isSome = false := hl
  rw [fnd_mem HG.out.2.2.2.2.1 hy] at hl'
  cases hl'
 case round =>
  obtain ⟨left, r, rfl, HR, HB, HP⟩ := hrel
  rcases HR.out.next Try.underlying3 0 with ⟨h0, hl, hrun⟩ | ⟨k, a, w4, cnt', wf, hlk, hg, hrun, hr4, hlt4, hbl, hen, hgr⟩
  ·
   have HL := Aside0.mk hl
   clear hl
   go_wp2_with fail
   go_ret
   exact ⟨r, rfl, ⟨HP.out.1, HP.out.2.1, fun y hy _ => HP.out.2.2.1 y hy (HL.out _), HP.out.2.2.2⟩, HB.out⟩
  ·
   have hrun' : (Instr.next (.pointer (some ⟨w.heap.size, 0, none⟩)) false 0).run Try.prog wr = .ok (.tuple #[.bool true, .int .i64 k, .pointer (some ⟨a, 0, none⟩)]) w4 := hrun
   have hen' : (Instr.entry (.pointer (some ⟨w.heap.size, 0, none⟩))).run Try.prog w4 = .ok (.tuple #[.int .i64 k, .pointer (some ⟨a, 0, none⟩)]) w4 := hen
   obtain ⟨y, hyk, rfl⟩ : ∃ y, fnd L k = some y ∧ a = nb k := by
    cases hf : fnd L k with
    | none => rw [hf] at hg; cases hg
    | some y => rw [hf] at hg; cases hg; exact ⟨y, rfl, rfl⟩
   obtain ⟨hy, rfl⟩ := za5 hyk
   have HB4 := Aside0.mk (HB.out.trans (hbl _ (Nat.le_refl _)))
   have HR4 := Aside0.mk hr4
   have HY := Aside0.mk hy
   have HLK := Aside0.mk hlk
   have hwy := (HG.out.way hy).2
   have hr9 := HP.out.1
   have hr10 := HP.out.2.1
   clear hrun hen hg hbl hr4 hgr hyk hy hlk
   have HST : Aside0 (∀ r', (t.f0 ∈ way L y.f0 → r' = if r < ((way L y.f0).length : Int) - (way L t.f0).length + 1 then ((way L y.f0).length : Int) - (way L t.f0).length + 1 else r) → (t.f0 ∉ way L y.f0 → r' = r) → HighP L t.f0 (fun x => (left x.f0 && !(x.f0 == y.f0)) = false) r') := ⟨fun r' h1 h2 => by
    obtain ⟨p1, p2, p3, p4⟩ := HP.out
    by_cases hm : t.f0 ∈ way L y.f0
    ·
     have e := h1 hm
     refine ⟨?_, ?_, fun x hx hs hmx => ?_, ?_⟩
     ·
      rw [e]; split <;> omega
     ·
      rw [e]; split <;> omega
     ·
      by_cases ex : x.f0 = y.f0
      ·
       rw [ex, e]
       split <;> omega
      ·
       have := p3 x hx (by simpa [ex] using hs) hmx
       rw [e]
       split <;> omega
     ·
      rw [e]
      split
      ·
       exact .inr ⟨y, HY.out, hm, rfl⟩
      ·
       exact p4
    ·
     have e := h2 hm
     rw [e]
     refine ⟨p1, p2, fun x hx hs hmx => ?_, p4⟩
     by_cases ex : x.f0 = y.f0
     ·
      rw [ex] at hmx
      exact absurd hmx hm
     ·
      exact p3 x hx (by simpa [ex] using hs) hmx⟩
   go_wp2_with fail
   go_at_call 28
   refine (below_nodes (H.out.keep HB4.out) HG.out HY.out HM.out).mono ?_
   by_cases hm : t.f0 ∈ way L y.f0
   ·
    rw [decide_eq_true hm]
    rintro e w5 ⟨rfl, hb5⟩
    have HB5 := Aside0.mk (zab HB4.out hb5)
    have HR5 := Aside0.mk (HR4.out.keep hb5)
    have HMM := Aside0.mk hm
    clear hb5 hm
    go_wp2_with fail
    refine (path_node (H.out.keep HB5.out) HG.out HY.out).mono ?_
    rintro e w6 ⟨A6, c6, rfl, hb6⟩
    have HB6 := Aside0.mk (zab HB5.out hb6)
    have HR6 := Aside0.mk (HR5.out.keep hb6)
    clear hb6
    go_wp2_with fail
    refine (path_node (H.out.keep HB6.out) HG.out HM.out).mono ?_
    rintro e w7 ⟨A7, c7, rfl, hb7⟩
    have HB7 := Aside0.mk (zab HB6.out hb7)
    have HR7 := Aside0.mk (HR6.out.keep hb7)
    clear hb7
    generalize hly : (way L y.f0).length = ly at hwy HST
    generalize hlt : (way L t.f0).length = lt at hwt HST
    have wl1 : wrap64 ((ly : Int) - (lt : Int)) = (ly : Int) - (lt : Int) := w64s (by omega) (by omega)
    have wl2 : wrap64 ((ly : Int) - (lt : Int) + 1) = (ly : Int) - (lt : Int) + 1 := w64s (by omega) (by omega)
    go_wp2_with fail
    all_goals
     go_roundg cnt'
     case measure => exact hlt4
     case rel => exact ⟨_, _, rfl, HR7, HB7, ⟨HST.out _ (fun _ => by clear wl1 wl2; split <;> omega) (fun hh => absurd HMM.out hh)⟩⟩
   ·
    rw [decide_eq_false hm]
    rintro e w5 ⟨rfl, hb5⟩
    have HB5 := Aside0.mk (zab HB4.out hb5)
    have HR5 := Aside0.mk (HR4.out.keep hb5)
    have HST2 := Aside0.mk (HST.out r (fun h => absurd h hm) fun _ => rfl)
    clear hb5 hm
    go_wp2_with fail
    go_roundg cnt'
    case measure => exact hlt4
    case rel => exact ⟨_, r, rfl, HR5, HB5, HST2⟩
noncomputable def movF (L : List S84) (id p : Int) : List S84 × Int :=
 open Classical in
 match fnd L id, fnd L p with
 | some g, some q => if g.f1 < 0 then (L, 15) else if rootG L id ≠ rootG L p then (L, 5) else if id ∈ way L p then (L, 12) else
   if ∃ y ∈ L, id ∈ way L y.f0 ∧ 8 < ((way L y.f0).length : Int) - (way L id).length + (way L p).length + 1 then (L, 7) else if g.f1 ≠ p ∧ kid L p + q.f3 = 32 then (L, 6) else (movG L id p, 0)
 | _, _ => (L, 4)
theorem zbt {L : List S84} {id p : Int} (h : fnd L id = none ∨ fnd L p = none) : movF L id p = (L, 4) := by
 unfold movF
 rcases h with h | h
 ·
  rw [h]
 ·
  rw [h]
  cases fnd L id <;> rfl
theorem movF_some {L : List S84} {id p : Int} {g q : S84} (h : fnd L id = some g) (h2 : fnd L p = some q) : movF L id p = open Classical in if g.f1 < 0 then (L, 15) else if rootG L id ≠ rootG L p then (L, 5) else if id ∈ way L p then (L, 12) else
   if ∃ y ∈ L, id ∈ way L y.f0 ∧ 8 < ((way L y.f0).length : Int) - (way L id).length + (way L p).length + 1 then (L, 7) else if g.f1 ≠ p ∧ kid L p + q.f3 = 32 then (L, 6) else (movG L id p, 0) := by
 unfold movF
 rw [h, h2]
theorem movG_same {L : List S84} (hA : Asc L) {g : S84} (hg : g ∈ L) {p : Int} (h : g.f1 = p) : movG L g.f0 p = L := by
 unfold movG setG
 have : (L.map fun y => if y.f0 = g.f0 then ({ y with f1 := p } : S84) else y) = L.map id := by
  refine List.map_congr_left fun y hy => ?_
  split
  ·
   rename_i e
   obtain rfl := hA.inj hy hg e
   rw [← h]
   rfl
  ·
   rfl
 rw [this, List.map_id]
theorem movF_good {room : Nat} {last : Int} {L : List S84} (hG : GoodF room last L) (id p : Int) : GoodF room last (movF L id p).1 := by
 cases hf : fnd L id with
 | none =>
  rw [zbt (.inl hf)]
  exact hG
 | some g =>
  cases hq : fnd L p with
  | none =>
   rw [zbt (.inr hq)]
   exact hG
  | some q =>
   rw [movF_some hf hq]
   obtain ⟨hg, rfl⟩ := za5 hf
   obtain ⟨hq', rfl⟩ := za5 hq
   split
   ·
    exact hG
   ·
    rename_i h0
    split
    ·
     exact hG
    ·
     split
     ·
      exact hG
     ·
      rename_i h2
      split
      ·
       exact hG
      ·
       rename_i h3
       split
       ·
        exact hG
       ·
        rename_i h4
        refine hG.mov hg hq' (by omega) h2 (fun y hy hm => ?_) (fun hne => ?_)
        ·
         rcases Int.lt_or_le 8 (((way L y.f0).length : Int) - (way L g.f0).length + (way L q.f0).length + 1) with h | h
         ·
          exact absurd ⟨y, hy, hm, h⟩ h3
         ·
          exact h
        ·
         have := (hG.2.2.2.2.2 q hq').2.2.2.2.2.2.2
         rcases Int.lt_or_le (kid L q.f0 + q.f3) 32 with h | h
         ·
          exact h
         ·
          exact absurd ⟨hne, by omega⟩ h4
theorem count_any {w w1 : World} {fb tb ts m : Nat} {nb : Int → Nat} {n room : Nat} {last : Int} {L : List S84} (h : FAt w fb tb ts m nb n room last L) (hG : GoodF room last L) {c : List Int} {id : Int} (hc : Ch (prt L) c id) {more : Int}
  (hp : PathAt w1 (c.map nb)) (a1 : S84 → Value) (a2 a3 a4 a5 a6 : S84 → Int) (hm : ∀ y ∈ L, -1000000 < a5 y + more ∧ a5 y + more < 1000000) (hn : ∀ y ∈ L, w1.heap[nb y.f0]? = some (nodeV y.f0 (a1 y) (a2 y) (a3 y) (a4 y) (a5 y) (a6 y))) :
  Calls Try.prog 30 #[pOf nb id, .int .i64 more] w1 fun e w' => e = .returned (.tuple #[]) ∧ (∀ y ∈ L, w'.heap[nb y.f0]? = some (nodeV y.f0 (a1 y) (a2 y) (a3 y) (a4 y) (a5 y + if y.f0 ∈ c then more else 0) (a6 y))) ∧ Wr (fun k => ∃ y ∈ L, k = nb y.f0) w1 w' := by
 have hl : c.length ≤ 1000 := by
  by_cases h0 : id < 0
  ·
   cases c with
   | nil => simp
   | cons x c =>
    obtain ⟨_, h1, _⟩ := hc
    omega
  ·
   obtain ⟨c', rfl⟩ := hc.head (by omega)
   obtain ⟨g, hg, e⟩ := way_mem hc List.mem_cons_self
   have := (hG.way hg).2
   rw [e, way_eq hc] at this
   omega
 rw [← (h.path hG.2.2.2.2.1 hc).2]
 refine (count_ok hp (by rw [List.length_map]; exact hl) (way_nodup h hc) fun b hb => ?_).mono ?_
 ·
  obtain ⟨x, hx, rfl⟩ := List.mem_map.1 hb
  obtain ⟨y, hy, rfl⟩ := way_mem hc hx
  exact ⟨_, _, _, _, _, _, _, hn y hy, hm y hy⟩
 ·
  rintro e w' ⟨rfl, hu, hw⟩
  refine ⟨rfl, fun y hy => ?_, hw.mono fun k hk => ?_⟩
  ·
   by_cases hyc : y.f0 ∈ c
   ·
    rw [if_pos hyc]
    exact hu _ ((mem_way h hc hy).2 hyc) _ _ _ _ _ _ _ (hn y hy)
   ·
    rw [if_neg hyc, Int.add_zero, ← hn y hy]
    exact hw.2 _ (zar (hn y hy)) fun hm => hyc ((mem_way h hc hy).1 hm)
  ·
   obtain ⟨x, hx, rfl⟩ := List.mem_map.1 hk
   obtain ⟨y, hy, rfl⟩ := way_mem hc hx
   exact ⟨y, hy, rfl⟩
theorem nodes_set6 {w w1 : World} {fb tb ts m : Nat} {nb : Int → Nat} {n room : Nat} {last : Int} {L : List S84} (h : FAt w fb tb ts m nb n room last L) {a1 : S84 → Value} {a5 a6 : S84 → Int} (hn : ∀ y ∈ L, w1.heap[nb y.f0]? = some (nodeV y.f0 (a1 y) y.f2 y.f3 y.f4 (a5 y) (a6 y))) {g : S84} (hg : g ∈ L) (v : Int) :
  ∀ y ∈ L, (w1.setCell ⟨nb g.f0, 6, none⟩ (.int .i64 v)).heap[nb y.f0]? = some (nodeV y.f0 (a1 y) y.f2 y.f3 y.f4 (a5 y) (if y.f0 = g.f0 then v else a6 y)) := fun y hy => by
 by_cases e : y.f0 = g.f0
 ·
  rw [if_pos e]
  have := hn y hy
  rw [e] at this ⊢
  exact zau this 6 _ rfl
 ·
  rw [if_neg e, Below.heap_setCell _ _ _ _ (fun e2 => e (h.inj hy hg e2))]
  exact hn y hy
theorem nodes_set1 {w w1 : World} {fb tb ts m : Nat} {nb : Int → Nat} {n room : Nat} {last : Int} {L : List S84} (h : FAt w fb tb ts m nb n room last L) {a1 : S84 → Value} {a5 a6 : S84 → Int} (hn : ∀ y ∈ L, w1.heap[nb y.f0]? = some (nodeV y.f0 (a1 y) y.f2 y.f3 y.f4 (a5 y) (a6 y))) {g : S84} (hg : g ∈ L) (v : Value) :
  ∀ y ∈ L, (w1.setCell ⟨nb g.f0, 1, none⟩ v).heap[nb y.f0]? = some (nodeV y.f0 (if y.f0 = g.f0 then v else a1 y) y.f2 y.f3 y.f4 (a5 y) (a6 y)) := fun y hy => by
 by_cases e : y.f0 = g.f0
 ·
  rw [if_pos e]
  have := hn y hy
  rw [e] at this ⊢
  exact zau this 1 _ rfl
 ·
  rw [if_neg e, Below.heap_setCell _ _ _ _ (fun e2 => e (h.inj hy hg e2))]
  exact hn y hy
theorem path_nodes {w1 : World} {nb : Int → Nat} {L : List S84} {a1 : S84 → Value} {a5 a6 : S84 → Int} (hn : ∀ y ∈ L, w1.heap[nb y.f0]? = some (nodeV y.f0 (a1 y) y.f2 y.f3 y.f4 (a5 y) (a6 y))) : ∀ {c : List Int} {id : Int}, Ch (prt L) c id → (∀ y ∈ L, y.f0 ∈ c → a1 y = pOf nb y.f1) → PathAt w1 (c.map nb) ∧ ptrO (c.map nb).head? = pOf nb id
 | [], id, hc, _ => by
  have h0 : id < 0 := hc
  refine ⟨trivial, ?_⟩
  unfold pOf
  rw [if_pos h0]
  rfl
 | x :: c, id, hc, ha => by
  obtain ⟨rfl, h0, p, hp, h1⟩ := hc
  obtain ⟨g, hg, rfl, rfl⟩ := prt_some hp
  obtain ⟨i1, i2⟩ := path_nodes hn h1 fun y hy hm => ha y hy (List.mem_cons_of_mem _ hm)
  have h4 := hn g hg
  rw [ha g hg List.mem_cons_self] at h4
  refine ⟨⟨⟨.int .i64 g.f0, .int .i64 g.f2, .int .i64 g.f3, .int .i64 g.f4, .int .i64 (a5 g), .int .i64 (a6 g), by rw [i2]; exact h4⟩, i1⟩, ?_⟩
  unfold pOf
  rw [if_neg (by omega)]
  rfl
theorem FAt.moved {w w5 : World} {fb tb ts m : Nat} {nb : Int → Nat} {n room : Nat} {last : Int} {L : List S84} (h : FAt w fb tb ts m nb n room last L) (hG : GoodF room last L) {g q : S84} (hg : g ∈ L) (hq : q ∈ L) (h0 : 0 ≤ g.f1) (hnl : g.f0 ∉ way L q.f0)
  (he : ∀ k, k = fb ∨ k = tb ∨ k = ts ∨ k = m → w5.heap[k]? = w.heap[k]?)
  (hn : ∀ y ∈ L, w5.heap[nb y.f0]? = some (nodeV y.f0 (if y.f0 = g.f0 then pOf nb q.f0 else pOf nb y.f1) y.f2 y.f3 y.f4 (act L y.f0 + (if y.f0 ∈ way L g.f1 then -act L g.f0 else 0) + if y.f0 ∈ way L q.f0 then act L g.f0 else 0) (kid L y.f0 - (if y.f0 = g.f1 then 1 else 0) + if y.f0 = q.f0 then 1 else 0))) :
  FAt w5 fb tb ts m nb n room last (movG L g.f0 q.f0) := by
 refine h.rebuild (fnd_setG_some fun _ => rfl) (setG_ids fun _ => rfl) he fun z hz => ?_
 obtain ⟨y, hy, rfl⟩ := mem_setG hz
 unfold NodeAt
 rw [setG_f0 (h := fun g => { g with f1 := q.f0 }) fun _ => rfl, act_mov hG hg hq h0 hnl, kid_mov hG.2.2.2.2.1 hg, hn y hy]
 have e1 : act L y.f0 + (if y.f0 ∈ way L g.f1 then -act L g.f0 else 0) + (if y.f0 ∈ way L q.f0 then act L g.f0 else 0) = act L y.f0 + (if y.f0 ∈ way L q.f0 then act L g.f0 else 0) - if y.f0 ∈ way L g.f1 then act L g.f0 else 0 := by
  split <;> split <;> omega
 have e2 : kid L y.f0 - (if y.f0 = g.f1 then 1 else 0) + (if y.f0 = q.f0 then 1 else 0) = kid L y.f0 + (if q.f0 = y.f0 then 1 else 0) - if g.f1 = y.f0 then 1 else 0 := by
  by_cases a : y.f0 = g.f1 <;> by_cases b : y.f0 = q.f0 <;> simp [a, b, eq_comm] <;> omega
 rw [e1, e2]
 by_cases e : y.f0 = g.f0
 ·
  rw [if_pos e, if_pos e]
 ·
  rw [if_neg e, if_neg e]
end Go.Proofs.Ytlmjdchcgfpngaa.P
end
