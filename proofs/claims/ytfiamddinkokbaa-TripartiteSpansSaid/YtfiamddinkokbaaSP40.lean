/- Texts joined into one file (wip/tools/pack.py): Table, PureChunk, PureNum -/
import Derived.Test.YtfiamddinkokbaaSP38
import Derived.Test.YtfiamddinkokbaaSP39
import Derived.Test.YtfiamddinkokbaaSP23
import Derived.Test.YtfiamddinkokbaaSP28
import Derived.Test.YtfiamddinkokbaaSP29
set_option linter.unusedVariables false
set_option linter.unusedSimpArgs false
section
namespace Go.Proofs.Ytfiamddinkokbaa.F
open Go.RowKit Go.Shelf Go.Proofs.YtfiamddinkokbaaW.PrintWords
def atB (l : List SP) (i : Int) : Int := match l.find? (fun p => decide (p.f0 = i)) with
 | some p => p.f1
 | none => -1
def tabB (n : Nat) (l : List SP) : List Int := l.foldl (fun t p => t.set p.f0.toNat p.f1) (List.replicate n (-1))
theorem fold_length : ∀ (l : List SP) (t : List Int), (l.foldl (fun t p => t.set p.f0.toNat p.f1) t).length = t.length
 | [], t => rfl
 | p :: l, t => by rw [List.foldl_cons, fold_length l, List.length_set]
theorem tab_length (n : Nat) (l : List SP) : (tabB n l).length = n := by unfold tabB; rw [fold_length, List.length_replicate]
theorem fold_at : ∀ (l : List SP) (t : List Int), (∀ p ∈ l, 0 ≤ p.f0 ∧ p.f0 < t.length) → l.Pairwise Rise → ∀ i : Int, 0 ≤ i → i < t.length →
  rd (l.foldl (fun t p => t.set p.f0.toNat p.f1) t) i = (match l.find? (fun p => decide (p.f0 = i)) with | some p => p.f1 | none => rd t i)
 | [], t, _, _, i, _, _ => rfl
 | p :: l, t, h, hp, i, h0, h1 => by
  have hpl := h p (List.mem_cons_self ..)
  rw [List.foldl_cons, fold_at l (t.set p.f0.toNat p.f1) (fun q hq => by rw [List.length_set]; exact h q (List.mem_cons_of_mem _ hq)) (List.pairwise_cons.1 hp).2 i h0 (by rw [List.length_set]; exact h1)]
  by_cases hi : p.f0 = i
  ·have hno : l.find? (fun p => decide (p.f0 = i)) = none := List.find?_eq_none.2 (fun q hq hc => by
    have := ((List.pairwise_cons.1 hp).1 q hq).1
    have := of_decide_eq_true hc
    omega)
   rw [hno, List.find?_cons_of_pos (by simpa using hi)]
   subst hi
   exact rd_set_same h0 h1
  ·rw [List.find?_cons_of_neg (by simpa using hi)]
   cases l.find? (fun p => decide (p.f0 = i)) with
   | some q => rfl
   | none => exact rd_set_ne hpl.1 h0 (fun e => hi e.symm)
theorem tab_at {n : Nat} {l : List SP} (h : ∀ p ∈ l, 0 ≤ p.f0 ∧ p.f0 < n) (hp : l.Pairwise Rise) {i : Int} (h0 : 0 ≤ i) (h1 : i < n) : rd (tabB n l) i = atB l i := by
 unfold tabB atB
 rw [fold_at l _ (fun p hpm => by rw [List.length_replicate]; exact h p hpm) hp i h0 (by rw [List.length_replicate]; exact h1)]
 have : rd (List.replicate n (-1)) i = -1 := by
  unfold rd; rw [List.getD_eq_getElem?_getD, List.getElem?_replicate, if_pos (by omega)]; rfl
 cases l.find? (fun p => decide (p.f0 = i)) with
 | some q => rfl
 | none => exact this
theorem at_some {l : List SP} {i : Int} (h : atB l i ≠ -1) : ∃ p ∈ l, p.f0 = i ∧ p.f1 = atB l i := by
 unfold atB at *
 cases hf : l.find? (fun p => decide (p.f0 = i)) with
 | none => rw [hf] at h; exact absurd rfl h
 | some p => exact ⟨p, List.mem_of_find?_eq_some hf, (by have := List.find?_some hf; simpa using this), rfl⟩
theorem rise_cases : ∀ {l : List SP}, l.Pairwise Rise → ∀ p ∈ l, ∀ q ∈ l, p = q ∨ Rise p q ∨ Rise q p
 | x :: l, h, p, hp, q, hq => by
  rcases List.mem_cons.1 hp with rfl | hp2
  ·rcases List.mem_cons.1 hq with rfl | hq2
   ·exact .inl rfl
   ·exact .inr (.inl ((List.pairwise_cons.1 h).1 q hq2))
  ·rcases List.mem_cons.1 hq with rfl | hq2
   ·exact .inr (.inr ((List.pairwise_cons.1 h).1 p hp2))
   ·exact rise_cases (List.pairwise_cons.1 h).2 p hp2 q hq2
theorem tab_chain {a b : List Int} {l : List SP} (h : Chain a b 0 a.length 0 b.length l) : Tab (tabB a.length l) a.length b.length := by
 have hat : ∀ i : Int, 0 ≤ i → i < a.length → rd (tabB a.length l) i = atB l i := fun i h0 h1 => tab_at (fun p hp => ⟨(h.2 p hp).1, (h.2 p hp).2.1⟩) h.1 h0 h1
 refine ⟨by rw [tab_length], fun i h0 h1 => ?_, fun i j h0 h1 h2 g0 g1 => ?_⟩
 ·rw [hat i h0 h1]
  by_cases hn : atB l i = -1
  ·omega
  ·obtain ⟨p, hp, _, e⟩ := at_some hn
   have := h.2 p hp
   omega
 ·rw [hat i h0 (by omega)] at g0 ⊢
  rw [hat j (by omega) h2] at g1 ⊢
  obtain ⟨p, hp, e1, e2⟩ := at_some (l := l) (i := i) (by omega)
  obtain ⟨q, hq, f1, f2⟩ := at_some (l := l) (i := j) (by omega)
  rcases rise_cases h.1 p hp q hq with g | g | g
  ·subst g; omega
  ·have := g.2; omega
  ·have := g.1; omega
theorem tab_same {a b : List Int} {l : List SP} (h : Chain a b 0 a.length 0 b.length l) {i : Int} (h0 : 0 ≤ i) (h1 : i < a.length) (h2 : 0 ≤ rd (tabB a.length l) i) : rd a i = rd b (rd (tabB a.length l) i) := by
 rw [tab_at (fun p hp => ⟨(h.2 p hp).1, (h.2 p hp).2.1⟩) h.1 h0 h1] at h2 ⊢
 obtain ⟨p, hp, e1, e2⟩ := at_some (l := l) (i := i) (by omega)
 have := (h.2 p hp).2.2.2.2
 rw [← e2, ← e1]
 exact this
theorem rdP_at (l : List SP) (i : Int) (xs ys : List SP) (c : SP) (h : l = xs ++ c :: ys) (hi : i = xs.length) : rd_T196 l i = c := rdOf_at _ l i xs ys c h hi
theorem table_in (n m : Nat) (l : List SP) (hn : n ≤ 4000000000) (hm : m ≤ 4000000000) (hl : l.length ≤ 4000000000) (hb : ∀ p ∈ l, 0 ≤ p.f0 ∧ p.f0 < n ∧ 0 ≤ p.f1 ∧ p.f1 < m) :
  ∀ (rest done : List SP) (t : List Int) (i wa wb : Int), l = done ++ rest → i = done.length → t.length = n → rest.Pairwise Rise → (∀ p ∈ rest, wa < p.f0 ∧ wb < p.f1) → Ev (fun k => chunk_table.l0 k n m t l (l.length : Int) i wa wb) (rest.foldl (fun t p => t.set p.f0.toNat p.f1) t, true)
 | [], done, t, i, wa, wb, hd, hi, ht, hr, hw => by
  refine Ev.succ ?_
  simp only [chunk_table.l0]
  exact Ev.neg (by rw [hd]; simp; omega) (Ev.val rfl)
 | p :: rest, done, t, i, wa, wb, hd, hi, ht, hr, hw => by
  have hsz : l.length = done.length + (rest.length + 1) := by rw [hd]; simp
  have hwr : wrap64 (i + 1) = i + 1 := wrap_in (by omega) (by omega)
  have hrd := rdP_at l i done rest p hd hi
  have hp := hb p (by rw [hd]; simp)
  have hwp := hw p (List.mem_cons_self ..)
  refine Ev.succ ?_
  simp only [chunk_table.l0, hwr, hrd]
  refine Ev.pos (by omega) (Ev.pos (by omega) (Ev.pos (by omega) (Ev.neg (by omega) (Ev.neg (by omega) (Ev.neg (by omega) (Ev.neg (by omega) (Ev.pos (by omega) (Ev.pos (by omega) ?_))))))))
  exact table_in n m l hn hm hl hb rest (done ++ [p]) (t.set p.f0.toNat p.f1) (i + 1) p.f0 p.f1 (by rw [hd]; simp) (by simp; omega) (by rw [List.length_set]; exact ht) (List.pairwise_cons.1 hr).2 (fun q hq => (List.pairwise_cons.1 hr).1 q hq)
def Rises (n m : Nat) (l : List SP) : Prop := l.Pairwise Rise ∧ ∀ p ∈ l, 0 ≤ p.f0 ∧ p.f0 < n ∧ 0 ≤ p.f1 ∧ p.f1 < m
theorem ev_table {n m : Nat} {l : List SP} (h : Rises n m l) (ha : n ≤ 4000000000) (hb : m ≤ 4000000000) (hl : l.length ≤ 4000000000) : Ev (fun k => chunk_table.f k (n : Int) (m : Int) l) (tabB n l, true) := by
 unfold chunk_table.f
 refine Ev.neg (by omega) ?_
 rw [decide_eq_false (show ¬ (m : Int) < 0 by omega)]
 refine Ev.succ ?_
 simp only [chunk_table.j0]
 refine Ev.neg (by simp) (Ev.bind (a := List.replicate n (-1)) (Ev.const ?_) ?_)
 ·unfold slices_Repeat_int_int.f
  rw [if_pos ⟨rfl, by omega, by omega⟩]; simp
 ·exact table_in n m l ha hb hl h.2 l [] _ 0 (-1) (-1) rfl rfl (by simp) h.1 (fun p hp => by have := h.2 p hp; omega)
theorem together_f {x y : List Int} {base left right o a b i : Int} (hx : Tab x base left) (hy : Tab y base right) (ho : 0 ≤ o) (hi : 0 ≤ i) (h1 : o + i ≤ 8000000000) (h2 : a + i ≤ 8000000000) (h3 : b + i ≤ 8000000000) (ha : 0 ≤ a) (hb : 0 ≤ b) :
  ∃ t : Bool, (t = true ↔ Tog x y base o a b i) ∧ chunk_sweep_together.f x y o a b i = some (t, o, a, b) := by
 have e1 : wrap64 (o + i) = o + i := wrap_in (by omega) (by omega)
 have e2 : wrap64 (a + i) = a + i := wrap_in (by omega) (by omega)
 have e3 : wrap64 (b + i) = b + i := wrap_in (by omega) (by omega)
 have l1 := hx.len
 have l2 := hy.len
 unfold chunk_sweep_together.f Tog
 rw [e1, e2, e3]
 by_cases c1 : o + i < base
 ·rw [if_pos (by omega), if_pos (by omega)]
  by_cases c2 : rd x (o + i) = a + i
  ·rw [if_pos c2, if_pos (by omega)]
   exact ⟨_, by rw [beq_iff_eq]; exact ⟨fun h => ⟨c1, c2, h⟩, fun h => h.2.2⟩, rfl⟩
  ·rw [if_neg c2]
   exact ⟨false, by simp; omega, rfl⟩
 ·rw [if_neg (by omega)]
  exact ⟨false, by simp; omega, rfl⟩
theorem stable_in {x y : List Int} {base left right o a b n : Int} (hx : Tab x base left) (hy : Tab y base right) (ho : 0 ≤ o) (ha : 0 ≤ a) (hb : 0 ≤ b) (hs : StabIs x y base o a b n) (h1 : o + n ≤ 8000000000) (h2 : a + n ≤ 8000000000) (h3 : b + n ≤ 8000000000) :
  ∀ (d : Nat) (i : Int), 0 ≤ i → i + d = n → Ev (fun k => chunk_sweep_stable.l0 k i x y o a b) (n, o, a, b)
 | 0, i, h0, he => by
  obtain ⟨t, ht, hf⟩ := together_f (i := i) hx hy ho h0 (by omega) (by omega) (by omega) ha hb
  have : t = false := by
   cases t with
   | false => rfl
   | true => exact absurd (ht.1 rfl) (by rw [show i = n by omega]; exact hs.2.2)
  subst this
  refine Ev.succ ?_
  simp only [chunk_sweep_stable.l0]
  refine Ev.bind (Ev.const hf) (Ev.neg (by simp) (Ev.val ?_))
  rw [show i = n by omega]
 | d + 1, i, h0, he => by
  obtain ⟨t, ht, hf⟩ := together_f (i := i) hx hy ho h0 (by omega) (by omega) (by omega) ha hb
  have : t = true := ht.2 (hs.2.1 i h0 (by omega))
  subst this
  refine Ev.succ ?_
  simp only [chunk_sweep_stable.l0]
  refine Ev.bind (Ev.const hf) (Ev.pos rfl ?_)
  rw [wrap_in (show -9223372036854775808 ≤ i + 1 by omega) (by omega)]
  exact stable_in hx hy ho ha hb hs h1 h2 h3 d (i + 1) (by omega) (by omega)
theorem next_in {x y : List Int} {base left right o a b tn : Int} (hx : Tab x base left) (hy : Tab y base right) (ho : 0 ≤ o) (hn : NextIs x y base o a b tn) (h1 : base ≤ 8000000000) :
  ∀ (d : Nat) (i : Int), o ≤ i → i + d = tn → Ev (fun k => chunk_sweep_next.l0 k i x y o a b) (tn, o, a, b)
 | 0, i, h0, he => by
  have e : i = tn := by omega
  subst e
  have l1 := hx.len
  have l2 := hy.len
  refine Ev.succ ?_
  simp only [chunk_sweep_next.l0]
  by_cases hb : i < base
  ·have := hn.2.2.2 hb
   exact Ev.pos (by omega) (Ev.pos (by omega) (Ev.neg (by omega) (Ev.pos (by omega) (Ev.neg (by omega) (Ev.val rfl)))))
  ·exact Ev.neg (by omega) (Ev.val rfl)
 | d + 1, i, h0, he => by
  have l1 := hx.len
  have l2 := hy.len
  have hb := hn.2.1
  have hlt := hn.2.2.1 i h0 (by omega)
  have next := next_in hx hy ho hn h1 d (i + 1) (by omega) (by omega)
  refine Ev.succ ?_
  simp only [chunk_sweep_next.l0]
  rw [wrap_in (show -9223372036854775808 ≤ i + 1 by omega) (by omega)]
  refine Ev.pos (by omega) (Ev.pos (by omega) ?_)
  by_cases hc : rd x i < a
  ·exact Ev.pos hc next
  ·exact Ev.neg hc (Ev.pos (by omega) (Ev.pos (by omega) next))
theorem ev_step {x y : List Int} {base left right o a b n : Int} (hx : Tab x base left) (hy : Tab y base right) (ho : 0 ≤ o) (ha : 0 ≤ a) (hb : 0 ≤ b) (h1 : base ≤ 4000000000) (h2 : left ≤ 4000000000) (h3 : right ≤ 4000000000) (hs : StabIs x y base o a b n) (ho' : o ≤ base) (ha' : a ≤ left) (hb' : b ≤ right) :
  Ev (fun k => chunk_sweep_stable.f k x y o a b) (n, o, a, b) := by
 by_cases hp : 0 < n
 ·obtain ⟨g1, g2, g3⟩ := stab_in hx hy ho hs hp
  exact stable_in hx hy ho ha hb hs (by omega) (by omega) (by omega) n.toNat 0 (by omega) (by omega)
 ·have := hs.1
  exact stable_in hx hy ho ha hb hs (by omega) (by omega) (by omega) n.toNat 0 (by omega) (by omega)
theorem sweep_len {x y : List Int} {base left right : Int} (hx : Tab x base left) (hy : Tab y base right) : ∀ {o a b : Int} {l : List SC}, Sweep x y base left right o a b l → 0 ≤ o → o ≤ base → 0 ≤ a → a ≤ left → 0 ≤ b → b ≤ right → (l.length : Int) ≤ (base - o) + (left - a) + (right - b) := by
 intro o a b l h h0 h1 h2 h3 h4 h5
 have hs := steps_of hx hy h h0 h1 h2 h3 h4 h5
 clear h h0 h1 h2 h3 h4 h5
 induction hs with
 | done => simp
 | cons h0 h1 h2 hc _ ih =>
  have := hc.some
  have := hc.le1
  have := hc.le2
  have := hc.le3
  simp only [List.length_cons]
  omega
theorem ev_ofL {x y : List Int} {base left right : Int} (hx : Tab x base left) (hy : Tab y base right) (h1 : base ≤ 4000000000) (h2 : left ≤ 4000000000) (h3 : right ≤ 4000000000) :
  ∀ {o a b : Int} {l : List SC}, Sweep x y base left right o a b l → 0 ≤ o → o ≤ base → 0 ≤ a → a ≤ left → 0 ≤ b → b ≤ right → ∀ out : List SC, out.length + l.length ≤ 100000000000 → Ev (fun k => ofL x y base left right k o a b out) (out ++ l) := by
 intro o a b l h
 induction h with
 | done h =>
  intro _ _ _ _ _ _ out _
  refine Ev.succ ?_
  simp only [ofL]
  rw [List.append_nil]
  exact Ev.neg h (Ev.val rfl)
 | stab h hs hp _ ih =>
  intro g0 g1 g2 g3 g4 g5 out hl
  rename_i o a b n l _
  obtain ⟨k1, k2, k3⟩ := stab_in hx hy g0 hs hp
  refine Ev.succ ?_
  simp only [ofL]
  refine Ev.pos h (Ev.bind (a := (n, o + n, a + n, b + n)) ?_ ?_)
  ·unfold stepO
   refine Ev.bind (ev_step hx hy g0 g2 g4 h1 h2 h3 hs g1 g3 g5) (Ev.neg (by omega) (Ev.val ?_))
   rw [wrap_in (by omega) (by omega), wrap_in (by omega) (by omega), wrap_in (by omega) (by omega)]
  ·refine Ev.pos (by simp only [List.length_cons] at hl; omega) ((ih (by omega) k1 (by omega) k2 (by omega) k3 (out ++ [chunkC n o a b (o + n) (a + n) (b + n)]) (by simp only [List.length_append, List.length_cons, List.length_nil] at *; omega)).cast ?_)
   simp
 | next h hs hn hb _ ih =>
  intro g0 g1 g2 g3 g4 g5 out hl
  rename_i o a b tn l _
  have m1 := hx.rng tn (by have := hn.1; omega) hb
  have m2 := hy.rng tn (by have := hn.1; omega) hb
  have m3 := hn.2.2.2 hb
  have m4 := hn.1
  have l1 := hx.len
  have l2 := hy.len
  refine Ev.succ ?_
  simp only [ofL]
  refine Ev.pos h (Ev.bind (a := (0, tn, rd x tn, rd y tn)) ?_ ?_)
  ·unfold stepO
   exact Ev.bind (ev_step hx hy g0 g2 g4 h1 h2 h3 hs g1 g3 g5) (Ev.pos rfl (Ev.bind (a := (tn, o, a, b)) (next_in hx hy g0 hn (by omega) (tn - o).toNat o (by omega) (by omega)) (Ev.pos hb (Ev.pos ⟨by omega, by omega, by omega⟩ (Ev.val rfl)))))
  ·refine Ev.pos (by simp only [List.length_cons] at hl; omega) ((ih (by omega) (by omega) (by omega) (by omega) (by omega) (by omega) (out ++ [chunkC 0 o a b tn (rd x tn) (rd y tn)]) (by simp only [List.length_append, List.length_cons, List.length_nil] at *; omega)).cast ?_)
   simp
 | last h hs hn _ ih =>
  intro g0 g1 g2 g3 g4 g5 out hl
  rename_i o a b l _
  refine Ev.succ ?_
  simp only [ofL]
  refine Ev.pos h (Ev.bind (a := (0, base, left, right)) ?_ ?_)
  ·unfold stepO
   exact Ev.bind (ev_step hx hy g0 g2 g4 h1 h2 h3 hs g1 g3 g5) (Ev.pos rfl (Ev.bind (a := (base, o, a, b)) (next_in hx hy g0 hn (by omega) (base - o).toNat o (by omega) (by omega)) (Ev.neg (by omega) (Ev.val rfl))))
  ·refine Ev.pos (by simp only [List.length_cons] at hl; omega) ((ih (by omega) (by omega) (by omega) (by omega) (by omega) (by omega) (out ++ [chunkC 0 o a b base left right]) (by simp only [List.length_append, List.length_cons, List.length_nil] at *; omega)).cast ?_)
   simp
theorem ev_chunk_of {nB nL nR : Nat} {lp rp : List SP} {cs : List SC} (h1 : Rises nB nL lp) (h2 : Rises nB nR rp) (hx : Tab (tabB nB lp) nB nL) (hy : Tab (tabB nB rp) nB nR) (ha : nB ≤ 1000000000) (hb : nL ≤ 1000000000) (hc : nR ≤ 1000000000) (hl : lp.length ≤ 4000000000) (hr : rp.length ≤ 4000000000)
  (hs : Sweep (tabB nB lp) (tabB nB rp) nB nL nR 0 0 0 cs) : Ev (fun k => chunk_Of.f k (nB : Int) (nL : Int) (nR : Int) lp rp) (cs, 0) := by
 have hlen := sweep_len hx hy hs (by omega) (by omega) (by omega) (by omega) (by omega) (by omega)
 unfold chunk_Of.f ofF
 exact Ev.bind (ev_table h1 (by omega) (by omega) hl) (Ev.bind (ev_table h2 (by omega) (by omega) hr) (Ev.pos ⟨rfl, rfl⟩ (Ev.bind ((ev_ofL hx hy (by omega) (by omega) (by omega) hs (by omega) (by omega) (by omega) (by omega) (by omega) (by omega) [] (by simp only [List.length_nil]; omega)).cast (by simp)) (Ev.val rfl))))
theorem span_cut (i j : Int) (l : List ByteArray) (hl : l.length ≤ 4000000000) : chunk_Span_Cut.f i j l = some (spanL ⟨i, j⟩ l) := by
 unfold chunk_Span_Cut.f spanL
 by_cases c1 : i < 0
 ·rw [if_pos c1, if_pos (.inl c1)]
 ·rw [if_neg c1]
  by_cases c2 : j > (l.length : Int)
  ·rw [if_pos c2, if_pos (.inr (.inl c2))]
  ·rw [if_neg c2]
   by_cases c3 : j < i
   ·rw [if_pos c3, if_pos (.inr (.inr c3))]
   ·rw [if_neg c3, if_pos (by omega), if_pos (by omega), if_pos (by omega), if_neg (by show ¬ (i < 0 ∨ (l.length : Int) < j ∨ j < i); omega)]
    unfold slices_Clone_string_string.f
    rw [if_pos (by rw [List.length_drop, List.length_take]; omega)]
    rfl
theorem span_len {s : SSp} {l : List ByteArray} : (spanL s l).length ≤ l.length := by
 unfold spanL
 split
 ·simp
 ·rw [List.length_drop, List.length_take]; omega
theorem equal_in (a b : List ByteArray) (hn : a.length ≤ 4000000000) (hab : a.length = b.length) : ∀ (ra rb da db : List ByteArray) (i : Int), a = da ++ ra → b = db ++ rb → da.length = db.length → i = da.length → Ev (fun k => slices_Equal_string_string.l0 k a b (a.length : Int) i) (decide (ra = rb))
 | [], rb, da, db, i, ha, hb, hd, ei => by
  have : rb = [] := by
   rw [ha, hb] at hab; simp at hab; exact List.length_eq_zero_iff.1 (by omega)
  subst this
  refine Ev.succ ?_
  simp only [slices_Equal_string_string.l0]
  refine Ev.neg (by rw [ha]; simp; omega) (Ev.val (by simp))
 | x :: ra, [], da, db, i, ha, hb, hd, ei => by
  rw [ha, hb] at hab; simp at hab; omega
 | x :: ra, y :: rb, da, db, i, ha, hb, hd, ei => by
  have hsz : a.length = da.length + (ra.length + 1) := by rw [ha]; simp
  have hw : wrap64 (i + 1) = i + 1 := wrap_in (by omega) (by omega)
  refine Ev.succ ?_
  simp only [slices_Equal_string_string.l0, hw, rdOf_at _ a i da ra x ha ei, rdOf_at _ b i db rb y hb (by omega)]
  refine Ev.pos (by omega) (Ev.pos (by omega) (Ev.pos (by omega) (Ev.pos (by omega) ?_)))
  by_cases he : x.toList = y.toList
  ·refine Ev.pos he ?_
   have hxy := toList_inj he
   subst hxy
   refine (equal_in a b hn hab ra rb (da ++ [x]) (db ++ [x]) (i + 1) (by rw [ha]; simp) (by rw [hb]; simp) (by simp [hd]) (by simp; omega)).cast ?_
   exact decide_eq_decide.2 ⟨fun h => by rw [h], fun h => (List.cons.inj h).2⟩
  ·refine Ev.neg he (Ev.val ?_)
   exact (decide_eq_false (fun h => he (by rw [(List.cons.inj h).1]))).symm
theorem ev_same (a b : List ByteArray) (hn : a.length ≤ 4000000000) : Ev (fun k => trim_Same_string.f k a b) (decide (a = b)) := by
 unfold trim_Same_string.f
 refine Ev.bind ?_ (Ev.val rfl)
 unfold slices_Equal_string_string.f
 by_cases h : (a.length : Int) = b.length
 ·exact Ev.pos h (equal_in a b hn (by omega) a b [] [] 0 rfl rfl rfl rfl)
 ·refine Ev.neg h (Ev.val ?_)
  exact (decide_eq_false (fun e => h (by rw [e]))).symm
theorem ev_class (c : SC) (B L R : List ByteArray) (hB : B.length ≤ 4000000000) (hL : L.length ≤ 4000000000) (hR : R.length ≤ 4000000000) : Ev (fun k => chunk_Chunk_Class.f k c.f0 c.f1.f0 c.f1.f1 c.f2.f0 c.f2.f1 c.f3.f0 c.f3.f1 B L R) (clsI c B L R) := by
 unfold chunk_Chunk_Class.f classF clsI
 have s1 := span_len (s := c.f1) (l := B)
 have s2 := span_len (s := c.f2) (l := L)
 refine Ev.bind (Ev.const (span_cut _ _ B hB)) (Ev.bind (Ev.const (span_cut _ _ L hL)) (Ev.bind (Ev.const (span_cut _ _ R hR)) ?_))
 by_cases c0 : c.f0 = true
 ·rw [if_pos c0]; exact Ev.pos c0 (Ev.val rfl)
 ·rw [if_neg c0]
  refine Ev.neg c0 (Ev.bind (ev_same _ _ (Nat.le_trans span_len hB)) ?_)
  by_cases c1 : spanL c.f1 B = spanL c.f2 L
  ·rw [if_pos c1]; exact Ev.pos (by simpa using c1) (Ev.val rfl)
  ·rw [if_neg c1]
   refine Ev.neg (by simpa using c1) (Ev.bind (ev_same _ _ (Nat.le_trans span_len hB)) ?_)
   by_cases c2 : spanL c.f1 B = spanL c.f3 R
   ·rw [if_pos c2]; exact Ev.pos (by simpa using c2) (Ev.val rfl)
   ·rw [if_neg c2]
    refine Ev.neg (by simpa using c2) (Ev.bind (ev_same _ _ (Nat.le_trans span_len hL)) ?_)
    by_cases c3 : spanL c.f2 L = spanL c.f3 R
    ·rw [if_pos c3]; exact Ev.pos (by simpa using c3) (Ev.val rfl)
    ·rw [if_neg c3]; exact Ev.neg (by simpa using c3) (Ev.val rfl)
theorem ev_cut (c : SC) (B L R : List ByteArray) (hB : B.length ≤ 4000000000) (hL : L.length ≤ 4000000000) (hR : R.length ≤ 4000000000) :
  Ev (fun k => build_Files_cut.f k B L R c.f0 c.f1.f0 c.f1.f1 c.f2.f0 c.f2.f1 c.f3.f0 c.f3.f1) (c.f0, c.f1.f0, c.f1.f1, c.f2.f0, c.f2.f1, c.f3.f0, c.f3.f1, spanL c.f1 B, spanL c.f2 L, spanL c.f3 R, clsI c B L R) := by
 unfold build_Files_cut.f
 exact Ev.bind (Ev.const (span_cut _ _ B hB)) (Ev.bind (Ev.const (span_cut _ _ L hL)) (Ev.bind (Ev.const (span_cut _ _ R hR)) (Ev.bind (ev_class c B L R hB hL hR) (Ev.val rfl))))
theorem count_in (B L R : List ByteArray) (hB : B.length ≤ 4000000000) (hL : L.length ≤ 4000000000) (hR : R.length ≤ 4000000000) : ∀ (rest : List SC) (n : Int), Ev (fun k => countL k B L R rest n) (n + countB B L R rest)
 | [], n => by
  simp only [countL]
  exact Ev.val (by simp [countB])
 | c :: rest, n => by
  simp only [countL]
  refine Ev.bind (ev_cut c B L R hB hL hR) ?_
  by_cases hc : clsI c B L R = 4
  ·simp only [if_pos hc]
   refine (count_in B L R hB hL hR rest (n + 1)).cast ?_
   unfold countB
   rw [List.filter_cons_of_pos (by simpa using hc)]
   simp only [List.length_cons]
   omega
  ·simp only [if_neg hc]
   refine (count_in B L R hB hL hR rest n).cast ?_
   unfold countB
   rw [List.filter_cons_of_neg (by simpa using hc)]
theorem ev_count (B L R : List ByteArray) (hB : B.length ≤ 4000000000) (hL : L.length ≤ 4000000000) (hR : R.length ≤ 4000000000) (l : List SC) (hl : l.length ≤ 4000000000000) : Ev (fun k => build_Count.f k B L R l) (countB B L R l) := by
 unfold build_Count.f countF
 exact Ev.pos hl ((count_in B L R hB hL hR l 0).cast (by omega))
def ixK (K : List (List UInt8)) (s : ByteArray) : Int := (K.idxOf s.data.toList : Nat)
theorem numStep_pre (K : List (List UInt8)) (s : ByteArray) : K <+: numStep K s := by unfold numStep; split; exact List.prefix_refl _; exact List.prefix_append _ _
theorem numStep_mem (K : List (List UInt8)) (s : ByteArray) : s.data.toList ∈ numStep K s := by unfold numStep; split; assumption; simp
theorem knRow_pre : ∀ (l : List ByteArray) (K : List (List UInt8)), K <+: knRow K l
 | [], K => List.prefix_refl _
 | s :: l, K => (numStep_pre K s).trans (knRow_pre l (numStep K s))
theorem knRow_mem : ∀ (l : List ByteArray) (K : List (List UInt8)), ∀ s ∈ l, s.data.toList ∈ knRow K l
 | t :: l, K, s, hs => by
  rcases List.mem_cons.1 hs with rfl | hs
  ·exact (knRow_pre l (numStep K s)).subset (numStep_mem K s)
  ·exact knRow_mem l (numStep K t) s hs
theorem idx_pre {K K' : List (List UInt8)} (h : K <+: K') {s : List UInt8} (hs : s ∈ K) : K'.idxOf s = K.idxOf s := by
 obtain ⟨t, rfl⟩ := h
 rw [List.idxOf_append, if_pos hs]
theorem numOf_step (K : List (List UInt8)) (s : ByteArray) : numOf K s = ixK (numStep K s) s := by
 unfold numOf ixK numStep
 split
 ·rfl
 ·rename_i h
  rw [List.idxOf_append, if_neg h, List.idxOf_eq_length h]; simp
theorem numRow_map : ∀ (l : List ByteArray) (K K' : List (List UInt8)), knRow K l <+: K' → numRow K l = l.map (ixK K')
 | [], K, K', h => rfl
 | s :: l, K, K', h => by
  rw [numRow, List.map_cons, numRow_map l (numStep K s) K' h, numOf_step]
  congr 1
  unfold ixK
  rw [idx_pre ((knRow_pre l (numStep K s)).trans h) (numStep_mem K s)]
def kn2 (B L : List ByteArray) : List (List UInt8) := knRow (knRow [] B) L
theorem number_two (B L : List ByteArray) : numberB [B, L] = [B.map (ixK (kn2 B L)), L.map (ixK (kn2 B L))] := by
 unfold numberB
 rw [numAll, numAll, numAll, numRow_map B [] (kn2 B L) (knRow_pre L _), numRow_map L (knRow [] B) (kn2 B L) (List.prefix_refl _)]
theorem kn2_left (B L : List ByteArray) : ∀ s ∈ B, s.data.toList ∈ kn2 B L := fun s hs => (knRow_pre L _).subset (knRow_mem B [] s hs)
theorem ixK_inj {K : List (List UInt8)} {s t : ByteArray} (hs : s.data.toList ∈ K) (h : ixK K s = ixK K t) : s = t := by
 unfold ixK at h
 have h' : K.idxOf s.data.toList = K.idxOf t.data.toList := by omega
 have ht : t.data.toList ∈ K := by
  have := List.idxOf_lt_length_of_mem hs
  rw [h'] at this
  exact List.idxOf_lt_length_iff.1 this
 have e1 := List.getElem_idxOf (List.idxOf_lt_length_of_mem hs)
 have e2 := List.getElem_idxOf (List.idxOf_lt_length_of_mem ht)
 apply bytes_ext
 rw [← e1, ← e2]
 simp only [h']
theorem rd_map_ix {K : List (List UInt8)} {B : List ByteArray} {i : Int} (h0 : 0 ≤ i) (h1 : i < B.length) : ∃ s, B[i.toNat]? = some s ∧ s ∈ B ∧ rd (B.map (ixK K)) i = ixK K s := by
 have hi : i.toNat < B.length := by omega
 refine ⟨B[i.toNat], List.getElem?_eq_getElem hi, List.getElem_mem hi, ?_⟩
 unfold rd
 rw [List.getD_eq_getElem?_getD, List.getElem?_map, List.getElem?_eq_getElem hi]; rfl
structure Matched (B L : List ByteArray) (lp : List SP) : Prop where
 eq : merge_match.f B L = some lp
 chain : Chain (B.map (ixK (kn2 B L))) (L.map (ixK (kn2 B L))) 0 B.length 0 L.length lp
 len : lp.length = Lcs.lcs (B.map (ixK (kn2 B L))) (L.map (ixK (kn2 B L)))
 lele : lp.length ≤ B.length
 tab : TabOf (tabB B.length lp) B L
theorem matched_ex (B L : List ByteArray) (hB : B.length ≤ 1000000000) (hL : L.length ≤ 1000000000) (sB : ∀ s ∈ B, s.size ≤ 4000000000) (sL : ∀ s ∈ L, s.size ≤ 4000000000) : ∃ lp, Matched B L lp := by
 obtain ⟨lp, h1, h2, h3⟩ := match_law (B.map (ixK (kn2 B L))) (L.map (ixK (kn2 B L))) (by rw [List.length_map]; omega) (by rw [List.length_map]; omega)
 have h4 := Lcs.lcs_le_left (B.map (ixK (kn2 B L))) (L.map (ixK (kn2 B L)))
 rw [List.length_map, List.length_map] at h2
 rw [List.length_map] at h4
 refine ⟨lp, ?_, h2, h3, by omega, ?_, ?_⟩
 ·unfold merge_match.f lines_Number.f
  have hcond : (∀ f ∈ [B, L], ∀ s ∈ f, s.size ≤ 4000000000) ∧ total [B, L] ≤ 4000000000 ∧ [B, L].length ≤ 4000000000 := by
   refine ⟨fun f hf => ?_, by unfold total; simp; omega, by simp⟩
   simp only [List.mem_cons, List.not_mem_nil, or_false] at hf
   rcases hf with rfl | rfl
   ·exact sB
   ·exact sL
  rw [if_pos hcond, Option.bind_some, number_two, if_pos (by simp), if_pos (by simp)]
  show (lcs_Match.f (B.map (ixK (kn2 B L))) (L.map (ixK (kn2 B L)))).bind _ = _
  unfold lcs_Match.f
  rw [if_pos ⟨by rw [List.length_map]; omega, by rw [List.length_map]; omega⟩, h1, Option.bind_some, if_pos (by omega)]; rfl
 ·have := tab_chain (a := B.map (ixK (kn2 B L))) (b := L.map (ixK (kn2 B L))) (l := lp) (by rw [List.length_map, List.length_map]; exact h2)
  rwa [List.length_map, List.length_map] at this
 ·intro i h0 hi hr
  have hs := tab_same (a := B.map (ixK (kn2 B L))) (b := L.map (ixK (kn2 B L))) (l := lp) (by rw [List.length_map, List.length_map]; exact h2) h0 (by rw [List.length_map]; exact hi) (by rw [List.length_map]; exact hr)
  rw [List.length_map] at hs
  have ht := tab_chain (a := B.map (ixK (kn2 B L))) (b := L.map (ixK (kn2 B L))) (l := lp) (by rw [List.length_map, List.length_map]; exact h2)
  rw [List.length_map, List.length_map] at ht
  obtain ⟨s, e1, m1, f1⟩ := rd_map_ix (K := kn2 B L) h0 hi
  obtain ⟨t, e2, m2, f2⟩ := rd_map_ix (K := kn2 B L) (B := L) hr (ht.rng i h0 hi).2
  rw [f1, f2] at hs
  rw [e1, e2, ixK_inj (kn2_left B L s m1) hs]
theorem Matched.rises {B L : List ByteArray} {lp : List SP} (h : Matched B L lp) : Rises B.length L.length lp := ⟨h.chain.1, fun p hp => by have := h.chain.2 p hp; omega⟩
structure Merged (B L R : List ByteArray) (lp rp : List SP) (cs : List SC) : Prop where
 ml : Matched B L lp
 mr : Matched B R rp
 sw : Sweep (tabB B.length lp) (tabB B.length rp) B.length L.length R.length 0 0 0 cs
theorem Merged.steps {B L R : List ByteArray} {lp rp : List SP} {cs : List SC} (h : Merged B L R lp rp cs) : Steps (tabB B.length lp) (tabB B.length rp) B.length L.length R.length 0 0 0 cs :=
 steps_of h.ml.tab.1 h.mr.tab.1 h.sw (by omega) (by omega) (by omega) (by omega) (by omega) (by omega)
theorem merged_ex (B L R : List ByteArray) (hB : B.length ≤ 1000000000) (hL : L.length ≤ 1000000000) (hR : R.length ≤ 1000000000) (sB : ∀ s ∈ B, s.size ≤ 4000000000) (sL : ∀ s ∈ L, s.size ≤ 4000000000) (sR : ∀ s ∈ R, s.size ≤ 4000000000) : ∃ lp rp cs, Merged B L R lp rp cs := by
 obtain ⟨lp, h1⟩ := matched_ex B L hB hL sB sL
 obtain ⟨rp, h2⟩ := matched_ex B R hB hR sB sR
 obtain ⟨cs, h3⟩ := sweep_ex h1.tab.1 h2.tab.1 (B.length + L.length + R.length) 0 0 0 (by omega) (by omega) (by omega) (by omega) (by omega) (by omega) (by omega)
 exact ⟨lp, rp, cs, h1, h2, h3⟩
theorem chunk_count {x y : List Int} {base left right : Int} : ∀ {o a b : Int} {l : List SC}, Steps x y base left right o a b l → (l.length : Int) ≤ 2 * (base - o) + 1 ∧ (Tog x y base o a b 0 → (l.length : Int) ≤ 2 * (base - o)) := by
 intro o a b l h
 induction h with
 | done => exact ⟨by simp, fun _ => by simp⟩
 | cons h0 h1 h2 hc hl ih =>
  rename_i o a b o' a' b' c l
  have l1 := hc.le1
  simp only [List.length_cons]
  cases hf : c.f0 with
  | true =>
   have := hc.st hf
   exact ⟨by omega, fun _ => by omega⟩
  | false =>
   have hun := hc.un hf
   refine ⟨?_, fun ht => absurd ht hun⟩
   rcases hc.nx hf with ⟨rfl, rfl, rfl⟩ | g
   ·have : l = [] := by
     cases hl with
     | done => rfl
     | cons k0 k1 k2 kc _ =>
      have := kc.le1
      have := kc.le2
      have := kc.le3
      have := kc.some
      omega
    subst this
    simp
    omega
   ·have := ih.2 g
    omega
end Go.Proofs.Ytfiamddinkokbaa.F
end
