/- Texts joined into one file (wip/tools/pack.py): MergeP, Table -/
import Derived.Test.YtfiamddinkokbaaMA38
import Derived.Test.YtfiamddinkokbaaMA39
set_option linter.unusedVariables false
set_option linter.unusedSimpArgs false
section
namespace Go.Proofs.Ytfiamddinkokbaa.F
open Go.RowKit Go.Shelf Go.Proofs.YtfiamddinkokbaaW.PrintWords
abbrev SSp := S89
abbrev RP := S109
def spanL {α : Type} (s : SSp) (l : List α) : List α := if s.f0 < 0 ∨ (l.length : Int) < s.f1 ∨ s.f1 < s.f0 then [] else (l.take s.f1.toNat).drop s.f0.toNat
def cutL' {α : Type} (i j : Int) (l : List α) : List α := (l.take j.toNat).drop i.toNat
theorem spanL_in {α : Type} {i j : Int} {l : List α} (h0 : 0 ≤ i) (h1 : i ≤ j) (h2 : j ≤ l.length) : spanL ⟨i, j⟩ l = cutL' i j l := by
 unfold spanL cutL'
 rw [if_neg (by show ¬ (i < 0 ∨ (l.length : Int) < j ∨ j < i); omega)]
def clsI (c : SC) (B L R : List ByteArray) : Int :=
 if c.f0 = true then 0 else if spanL c.f1 B = spanL c.f2 L then 2 else if spanL c.f1 B = spanL c.f3 R then 1 else if spanL c.f2 L = spanL c.f3 R then 3 else 4
def textR (s : ByteArray) : RP := ⟨⟨#[]⟩, ⟨#[]⟩, ⟨#[]⟩, false, s, ⟨#[]⟩, ⟨#[]⟩, ⟨#[]⟩, false⟩
def hoistN (st : Int) (l r : List ByteArray) : Nat := if st = 2 then endsN l r else 0
def hoistM (st : Int) (l r : List ByteArray) : Nat := if st = 2 then endsM l r else 0
def midL (xs : List ByteArray) (n m : Nat) : List ByteArray := (xs.take (xs.length - m)).drop n
def hunkR (st : Int) (g0 g1 g2 : ByteArray) (b l r : List ByteArray) : RP :=
 ⟨g0, if st = 0 then ⟨#[]⟩ else g1, g2, true, ⟨#[]⟩, catB (midL l (hoistN st l r) (hoistM st l r)), if st = 0 then ⟨#[]⟩ else catB b, catB (midL r (hoistN st l r) (hoistM st l r)), decide (st ≠ 0)⟩
def pieceR (st fv : Int) (g0 g1 g2 : ByteArray) (k : Int) (b l r : List ByteArray) : List RP :=
 if k = 0 then [textR (catB b)]
 else if k = 1 ∨ k = 3 ∨ (k = 4 ∧ fv = 1) then [textR (catB l)]
 else if k = 2 ∨ fv = 3 then [textR (catB r)]
 else [textR (catB (l.take (hoistN st l r))), hunkR st g0 g1 g2 b l r, textR (catB (l.drop (l.length - hoistM st l r)))]
def partsR (st fv : Int) (g0 g1 g2 : ByteArray) (B L R : List ByteArray) (c : SC) : List RP := pieceR st fv g0 g1 g2 (clsI c B L R) (spanL c.f1 B) (spanL c.f2 L) (spanL c.f3 R)
def docB (st fv : Int) (g0 g1 g2 : ByteArray) (B L R : List ByteArray) (cs : List SC) : List RP := ofP (cs.flatMap (partsR st fv g0 g1 g2 B L R))
def countB (B L R : List ByteArray) (cs : List SC) : Int := ((cs.filter (fun c => decide (clsI c B L R = 4))).length : Nat)
def TabOf (x : List Int) (B L : List ByteArray) : Prop := Tab x B.length L.length ∧ ∀ i : Int, 0 ≤ i → i < B.length → 0 ≤ rd x i → B[i.toNat]? = L[(rd x i).toNat]?
theorem cutL'_length {α : Type} {i j : Int} {l : List α} (h0 : 0 ≤ i) (h1 : i ≤ j) (h2 : j ≤ l.length) : ((cutL' i j l).length : Int) = j - i := by
 unfold cutL'; rw [List.length_drop, List.length_take]; omega
theorem cutL'_get {α : Type} {i j : Int} {l : List α} (h0 : 0 ≤ i) (k : Nat) (hk : k < j - i) : (cutL' i j l)[k]? = l[(i + k).toNat]? := by
 unfold cutL'; rw [List.getElem?_drop, List.getElem?_take_of_lt (by omega), show (i + (k : Int)).toNat = i.toNat + k by omega]
theorem cut_same {x : List Int} {B L : List ByteArray} (h : TabOf x B L) {o o' a a' : Int} (h0 : 0 ≤ o) (h1 : o ≤ o') (h2 : o' ≤ B.length) (g0 : 0 ≤ a) (g1 : a ≤ a') (g2 : a' ≤ L.length) (he : a' - a = o' - o) (hs : ∀ i : Int, 0 ≤ i → i < o' - o → rd x (o + i) = a + i) : cutL' o o' B = cutL' a a' L := by
 refine List.ext_getElem? (fun k => ?_)
 have l1 := cutL'_length (l := B) h0 h1 h2
 have l2 := cutL'_length (l := L) g0 g1 g2
 by_cases hk : (k : Int) < o' - o
 ·rw [cutL'_get h0 k hk, cutL'_get g0 k (by omega)]
  have := h.2 (o + k) (by omega) (by omega)
  rw [hs k (by omega) hk] at this
  exact this (by omega)
 ·rw [List.getElem?_eq_none (by omega), List.getElem?_eq_none (by omega)]
theorem cut_join {α : Type} {i j k : Int} {l : List α} (h0 : 0 ≤ i) (h1 : i ≤ j) (h2 : j ≤ k) (h3 : k ≤ l.length) : cutL' i j l ++ cutL' j k l = cutL' i k l := by
 unfold cutL'
 rw [show l.take j.toNat = (l.take k.toNat).take j.toNat by rw [List.take_take, Nat.min_eq_left (by omega)]]
 have hl : (l.take k.toNat).length = k.toNat := by rw [List.length_take]; omega
 generalize l.take k.toNat = t at *
 have e : t.drop j.toNat = (t.drop i.toNat).drop (j.toNat - i.toNat) := by rw [List.drop_drop, show i.toNat + (j.toNat - i.toNat) = j.toNat by omega]
 rw [List.drop_take, e, List.take_append_drop]
theorem cut_all {α : Type} (l : List α) : cutL' 0 l.length l = l := by unfold cutL'; simp
theorem steps_spans {x y : List Int} {B L R : List ByteArray} : ∀ {o a b : Int} {cs : List SC}, Steps x y B.length L.length R.length o a b cs →
  cs.flatMap (fun c => spanL c.f1 B) = cutL' o B.length B ∧ cs.flatMap (fun c => spanL c.f2 L) = cutL' a L.length L ∧ cs.flatMap (fun c => spanL c.f3 R) = cutL' b R.length R := by
 intro o a b cs h
 have nil : ∀ {α : Type} (l : List α), cutL' l.length l.length l = [] := fun l => by unfold cutL'; simp
 induction h with
 | done => exact ⟨(nil B).symm, (nil L).symm, (nil R).symm⟩
 | cons h0 h1 h2 hc _ ih =>
  rename_i o a b o' a' b' c l _
  have l1 := hc.le1
  have l2 := hc.le2
  have l3 := hc.le3
  rw [List.flatMap_cons, List.flatMap_cons, List.flatMap_cons, ih.1, ih.2.1, ih.2.2, hc.sp1, hc.sp2, hc.sp3, spanL_in h0 l1.1 l1.2, spanL_in h1 l2.1 l2.2, spanL_in h2 l3.1 l3.2]
  exact ⟨cut_join h0 l1.1 l1.2 (by omega), cut_join h1 l2.1 l2.2 (by omega), cut_join h2 l3.1 l3.2 (by omega)⟩
theorem chunk_stable {x y : List Int} {B L R : List ByteArray} {o a b o' a' b' : Int} {c : SC} (hx : TabOf x B L) (hy : TabOf y B R) (h0 : 0 ≤ o) (h1 : 0 ≤ a) (h2 : 0 ≤ b) (hc : ChunkIs x y B.length L.length R.length o a b o' a' b' c) (hs : c.f0 = true) :
  spanL c.f1 B = spanL c.f2 L ∧ spanL c.f1 B = spanL c.f3 R := by
 have l1 := hc.le1
 have l2 := hc.le2
 have l3 := hc.le3
 obtain ⟨s1, s2, s3, s4⟩ := hc.st hs
 rw [hc.sp1, hc.sp2, hc.sp3, spanL_in h0 l1.1 l1.2, spanL_in h1 l2.1 l2.2, spanL_in h2 l3.1 l3.2]
 exact ⟨cut_same hx h0 l1.1 l1.2 h1 l2.1 l2.2 s2 (fun i i0 i1 => (s4 i i0 i1).1), cut_same hy h0 l1.1 l1.2 h2 l3.1 l3.2 s3 (fun i i0 i1 => (s4 i i0 i1).2)⟩
theorem steps_all {x y : List Int} {base left right : Int} {P : SC → Prop} (Q : Int → Int → Int → Prop) (hP : ∀ {o a b o' a' b' : Int} {c : SC}, 0 ≤ o → 0 ≤ a → 0 ≤ b → ChunkIs x y base left right o a b o' a' b' c → Q o a b → P c ∧ Q o' a' b') :
  ∀ {o a b : Int} {cs : List SC}, Steps x y base left right o a b cs → Q o a b → ∀ c ∈ cs, P c := by
 intro o a b cs h
 induction h with
 | done => exact fun _ c hc => by cases hc
 | cons h0 h1 h2 hc _ ih =>
  intro hq c hm
  obtain ⟨g1, g2⟩ := hP h0 h1 h2 hc hq
  rcases List.mem_cons.1 hm with rfl | hm
  ·exact g1
  ·exact ih g2 c hm
theorem steps_both {x : List Int} {base left : Int} : ∀ {o a b : Int} {cs : List SC}, Steps x x base left left o a b cs → a = b → ∀ c ∈ cs, c.f2 = c.f3 := by
 intro o a b cs h he
 refine steps_all (P := fun c => c.f2 = c.f3) (fun o a b => a = b) ?_ h he
 rintro o a b o' a' b' c h0 h1 h2 hc rfl
 have key : a' = b' := by
  cases hf : c.f0 with
  | true => have := hc.st hf; omega
  | false =>
   rcases hc.nx hf with g | g
   ·omega
   ·have := g.2.1
    have := g.2.2
    omega
 subst key
 exact ⟨by rw [hc.sp2, hc.sp3], rfl⟩
theorem catB_append (a b : List ByteArray) : catB (a ++ b) = catB a ++ catB b := bytes_ext (by unfold catB; rw [ByteArray.data_append, Array.toList_append, data_toB, data_toB, data_toB, List.flatMap_append])
theorem catB_nil : catB [] = ⟨#[]⟩ := rfl
theorem catB_flat {α : Type} (g : α → List ByteArray) : ∀ cs : List α, catB (cs.map (fun c => catB (g c))) = catB (cs.flatMap g)
 | [] => rfl
 | c :: cs => by
  rw [List.map_cons, List.flatMap_cons, catB_append, ← catB_flat g cs, show ∀ (s : ByteArray) l, catB (s :: l) = catB ([s] ++ l) from fun _ _ => rfl, catB_append]
  congr 1
  exact bytes_ext (by unfold catB; simp [data_toB])
theorem isTextP_textR (s : ByteArray) : isTextP (textR s) = true := by simp [isTextP, textR, bytes_toList]
theorem of_texts_acc : ∀ (ss : List ByteArray) (z : ByteArray), (ss.map textR).foldl ofStep [textR z] = [textR (z ++ catB ss)]
 | [], z => by
  rw [catB_nil]
  show [textR z] = [textR (z ++ _)]
  rw [show z ++ (⟨#[]⟩ : ByteArray) = z from bytes_ext (by rw [ByteArray.data_append, Array.toList_append]; simp)]
 | s :: ss, z => by
  rw [List.map_cons, List.foldl_cons]
  have hcat : catB (s :: ss) = s ++ catB ss := by
   rw [show s :: ss = [s] ++ ss from rfl, catB_append]
   congr 1
   exact bytes_ext (by unfold catB; simp [data_toB])
  by_cases hn : isNoneP (textR s) = true
  ·rw [ofStep_none _ _ hn, of_texts_acc ss z, hcat]
   have : s = ⟨#[]⟩ := by
    unfold isNoneP at hn
    rw [isTextP_textR, Bool.true_and] at hn
    have : s.toList.isEmpty = true := hn
    exact bytes_ext (by rw [← bytes_toList]; exact List.isEmpty_iff.1 this)
   subst this
   rw [show (⟨#[]⟩ : ByteArray) ++ catB ss = catB ss from bytes_ext (by rw [ByteArray.data_append, Array.toList_append]; simp)]
  ·have := ofStep_join [] (textR z) (textR s) hn (isTextP_textR s) (isTextP_textR z)
   rw [List.nil_append, List.nil_append] at this
   rw [this, show joinP (textR z) (textR s) = textR (z ++ s) from rfl, of_texts_acc ss (z ++ s), hcat]
   congr 2
   exact bytes_ext (by rw [ByteArray.data_append, ByteArray.data_append, ByteArray.data_append, ByteArray.data_append, Array.toList_append, Array.toList_append, Array.toList_append, Array.toList_append, List.append_assoc])
theorem of_texts : ∀ ss : List ByteArray, ofP (ss.map textR) = if (catB ss).size = 0 then [] else [textR (catB ss)]
 | [] => rfl
 | s :: ss => by
  have hcat : catB (s :: ss) = s ++ catB ss := by
   rw [show s :: ss = [s] ++ ss from rfl, catB_append]
   congr 1
   exact bytes_ext (by unfold catB; simp [data_toB])
  show ((s :: ss).map textR).foldl ofStep [] = _
  rw [List.map_cons, List.foldl_cons, hcat]
  by_cases hn : isNoneP (textR s) = true
  ·rw [ofStep_none _ _ hn]
   have : s = ⟨#[]⟩ := by
    unfold isNoneP at hn
    rw [isTextP_textR, Bool.true_and] at hn
    have : s.toList.isEmpty = true := hn
    exact bytes_ext (by rw [← bytes_toList]; exact List.isEmpty_iff.1 this)
   subst this
   rw [show (⟨#[]⟩ : ByteArray) ++ catB ss = catB ss from bytes_ext (by rw [ByteArray.data_append, Array.toList_append]; simp)]
   exact of_texts ss
  ·rw [ofStep_nil _ hn, of_texts_acc ss s, if_neg ?_]
   intro h0
   rw [ByteArray.size_append] at h0
   apply hn
   unfold isNoneP
   rw [isTextP_textR, Bool.true_and]
   exact (empty_toList s).2 (by omega)
theorem doc_texts {st fv : Int} {g0 g1 g2 : ByteArray} {B L R : List ByteArray} {cs : List SC} (g : SC → List ByteArray) (h : ∀ c ∈ cs, partsR st fv g0 g1 g2 B L R c = [textR (catB (g c))]) :
  docB st fv g0 g1 g2 B L R cs = if (catB (cs.flatMap g)).size = 0 then [] else [textR (catB (cs.flatMap g))] := by
 have : cs.flatMap (partsR st fv g0 g1 g2 B L R) = (cs.map (fun c => catB (g c))).map textR := by
  induction cs with
  | nil => rfl
  | cons c cs ih =>
   rw [List.flatMap_cons, List.map_cons, List.map_cons, h c (List.mem_cons_self ..), ih (fun c hc => h c (List.mem_cons_of_mem _ hc))]; rfl
 unfold docB
 rw [this, of_texts, catB_flat]
theorem print_text {s : ByteArray} {w : Int} (h1 : textRun s < w) (h2 : w ≤ 1073741824) : printP (if s.size = 0 then [] else [textR s]) w = (s, 0) := by
 have h0 := textRun_bound s
 rw [printP_in (by omega) h2]
 by_cases hs : s.size = 0
 ·rw [if_pos hs, if_pos (show rightP false [] = true from rfl), if_pos (by unfold fitsP; rw [decide_eq_true (show 1 ≤ w by omega)]; rfl)]
  have : s = ⟨#[]⟩ := bytes_ext (List.eq_nil_of_length_eq_zero (by rw [size_data]; exact hs))
  rw [this]; rfl
 ·rw [if_neg hs]
  have he : s.toList.isEmpty = false := by
   cases hx : s.toList.isEmpty with
   | false => rfl
   | true => exact absurd ((empty_toList s).1 hx) hs
  have hr : rightP false [textR s] = true := by
   rw [rightP_cons]
   unfold oneP
   rw [isTextP_textR, show (textR s).f4 = s from rfl, he]
   rfl
  have hf : fitsP [textR s] w = true := by
   unfold fitsP
   rw [decide_eq_true (show 1 ≤ w by omega)]
   rw [List.all_cons, List.all_nil, Bool.and_true, Bool.true_and]
   unfold narrowerP
   have e0 : textRun (⟨#[]⟩ : ByteArray) = 0 := rfl
   rw [show (textR s).f4 = s from rfl, show (textR s).f5 = ⟨#[]⟩ from rfl, show (textR s).f6 = ⟨#[]⟩ from rfl, show (textR s).f7 = ⟨#[]⟩ from rfl, e0, decide_eq_true h1, decide_eq_true (show (0 : Int) < w by omega)]
   rfl
  rw [if_pos hr, if_pos hf]
  have : printL w ([textR s].map to106) = s.data.toList := by simp [printL, partL, to106, textR]
  rw [this, toB_data]
def atB (l : List SP) (i : Int) : Int := match l.find? (fun p => decide (p.f0 = i)) with
 | some p => p.f1
 | none => -1
def tabB (n : Nat) (l : List SP) : List Int := l.foldl (fun t p => t.set p.f0.toNat p.f1) (List.replicate n (-1))
theorem fold_length : ∀ (l : List SP) (t : List Int), (l.foldl (fun t p => t.set p.f0.toNat p.f1) t).length = t.length
 | [], t => rfl
 | p :: l, t => by rw [List.foldl_cons, fold_length l, List.length_set]
theorem tab_length (n : Nat) (l : List SP) : (tabB n l).length = n := by unfold tabB; rw [fold_length, List.length_replicate]
theorem fold_at : ∀ (l : List SP) (t : List Int), (∀ p ∈ l, 0 ≤ p.f0 ∧ p.f0 < t.length) → l.Pairwise Rise → ∀ i : Int, 0 ≤ i → i < t.length →
  rd (l.foldl (fun t p => t.set p.f0.toNat p.f1) t) i = (match l.find? (fun p => decide (p.f0 = i)) with | some p => p.f1 | none => rd t i)
 | [], t, _, _, i, _, _ => rfl
 | p :: l, t, h, hp, i, h0, h1 => by
  have hpl := h p (List.mem_cons_self ..)
  rw [List.foldl_cons, fold_at l (t.set p.f0.toNat p.f1) (fun q hq => by rw [List.length_set]; exact h q (List.mem_cons_of_mem _ hq)) (List.pairwise_cons.1 hp).2 i h0 (by rw [List.length_set]; exact h1)]
  by_cases hi : p.f0 = i
  ·have hno : l.find? (fun p => decide (p.f0 = i)) = none := List.find?_eq_none.2 (fun q hq hc => by
    have := ((List.pairwise_cons.1 hp).1 q hq).1
    have := of_decide_eq_true hc
    omega)
   rw [hno, List.find?_cons_of_pos (by simpa using hi)]
   subst hi
   exact rd_set_same h0 h1
  ·rw [List.find?_cons_of_neg (by simpa using hi)]
   cases l.find? (fun p => decide (p.f0 = i)) with
   | some q => rfl
   | none => exact rd_set_ne hpl.1 h0 (fun e => hi e.symm)
theorem tab_at {n : Nat} {l : List SP} (h : ∀ p ∈ l, 0 ≤ p.f0 ∧ p.f0 < n) (hp : l.Pairwise Rise) {i : Int} (h0 : 0 ≤ i) (h1 : i < n) : rd (tabB n l) i = atB l i := by
 unfold tabB atB
 rw [fold_at l _ (fun p hpm => by rw [List.length_replicate]; exact h p hpm) hp i h0 (by rw [List.length_replicate]; exact h1)]
 have : rd (List.replicate n (-1)) i = -1 := by
  unfold rd; rw [List.getD_eq_getElem?_getD, List.getElem?_replicate, if_pos (by omega)]; rfl
 cases l.find? (fun p => decide (p.f0 = i)) with
 | some q => rfl
 | none => exact this
theorem at_some {l : List SP} {i : Int} (h : atB l i ≠ -1) : ∃ p ∈ l, p.f0 = i ∧ p.f1 = atB l i := by
 unfold atB at *
 cases hf : l.find? (fun p => decide (p.f0 = i)) with
 | none => rw [hf] at h; exact absurd rfl h
 | some p => exact ⟨p, List.mem_of_find?_eq_some hf, (by have := List.find?_some hf; simpa using this), rfl⟩
theorem rise_cases : ∀ {l : List SP}, l.Pairwise Rise → ∀ p ∈ l, ∀ q ∈ l, p = q ∨ Rise p q ∨ Rise q p
 | x :: l, h, p, hp, q, hq => by
  rcases List.mem_cons.1 hp with rfl | hp2
  ·rcases List.mem_cons.1 hq with rfl | hq2
   ·exact .inl rfl
   ·exact .inr (.inl ((List.pairwise_cons.1 h).1 q hq2))
  ·rcases List.mem_cons.1 hq with rfl | hq2
   ·exact .inr (.inr ((List.pairwise_cons.1 h).1 p hp2))
   ·exact rise_cases (List.pairwise_cons.1 h).2 p hp2 q hq2
theorem at_of_mem {l : List SP} (hr : l.Pairwise Rise) {p : SP} (hp : p ∈ l) : atB l p.f0 = p.f1 := by
 unfold atB
 cases hf : l.find? (fun q => decide (q.f0 = p.f0)) with
 | none =>
  have := List.find?_eq_none.1 hf p hp
  simp at this
 | some q =>
  have e : q.f0 = p.f0 := by have := List.find?_some hf; simpa using this
  rcases rise_cases hr p hp q (List.mem_of_find?_eq_some hf) with h | h | h
  ·rw [h]
  ·have := h.1; omega
  ·have := h.1; omega
theorem tab_chain {a b : List Int} {l : List SP} (h : Chain a b 0 a.length 0 b.length l) : Tab (tabB a.length l) a.length b.length := by
 have hat : ∀ i : Int, 0 ≤ i → i < a.length → rd (tabB a.length l) i = atB l i := fun i h0 h1 => tab_at (fun p hp => ⟨(h.2 p hp).1, (h.2 p hp).2.1⟩) h.1 h0 h1
 refine ⟨by rw [tab_length], fun i h0 h1 => ?_, fun i j h0 h1 h2 g0 g1 => ?_⟩
 ·rw [hat i h0 h1]
  by_cases hn : atB l i = -1
  ·omega
  ·obtain ⟨p, hp, _, e⟩ := at_some hn
   have := h.2 p hp
   omega
 ·rw [hat i h0 (by omega)] at g0 ⊢
  rw [hat j (by omega) h2] at g1 ⊢
  obtain ⟨p, hp, e1, e2⟩ := at_some (l := l) (i := i) (by omega)
  obtain ⟨q, hq, f1, f2⟩ := at_some (l := l) (i := j) (by omega)
  rcases rise_cases h.1 p hp q hq with g | g | g
  ·subst g; omega
  ·have := g.2; omega
  ·have := g.1; omega
theorem tab_same {a b : List Int} {l : List SP} (h : Chain a b 0 a.length 0 b.length l) {i : Int} (h0 : 0 ≤ i) (h1 : i < a.length) (h2 : 0 ≤ rd (tabB a.length l) i) : rd a i = rd b (rd (tabB a.length l) i) := by
 rw [tab_at (fun p hp => ⟨(h.2 p hp).1, (h.2 p hp).2.1⟩) h.1 h0 h1] at h2 ⊢
 obtain ⟨p, hp, e1, e2⟩ := at_some (l := l) (i := i) (by omega)
 have := (h.2 p hp).2.2.2.2
 rw [← e2, ← e1]
 exact this
end Go.Proofs.Ytfiamddinkokbaa.F
end
