/- Texts joined into one file (wip/tools/pack.py): PureGen, TurnsWalk -/
import Derived.Test.YtfiamddinkokbaaMT41
set_option linter.unusedVariables false
set_option linter.unusedSimpArgs false
section
namespace Go.Proofs.Ytfiamddinkokbaa.F
open Go.RowKit Go.Shelf Go.Proofs.YtfiamddinkokbaaW.PrintWords
theorem ev_options2 (st wd fv : Int) (a b c : ByteArray) (hs : a.size + b.size + c.size ≤ 500) : ∃ (g0 g1 g2 : ByteArray) (st' wd' : Int), Okay g0 g1 g2 st' wd' 0 ∧ g0.size + g1.size + g2.size ≤ 500 ∧ Ev (fun k => tripartitelaw12_Options.f k st wd fv a b c) (g0, g1, g2, st', wd', 0) := by
 obtain ⟨g0, s0, l0, e0⟩ := ev_bare a (by omega)
 obtain ⟨g1, s1, l1, e1⟩ := ev_bare b (by omega)
 obtain ⟨g2, s2, l2, e2⟩ := ev_bare c (by omega)
 have u1 := u64_nonneg st
 have u2 := u64_nonneg wd
 have t1 : 0 ≤ Int.tmod (IntKind.u64.wrap st) 3 ∧ Int.tmod (IntKind.u64.wrap st) 3 < 3 := by rw [Int.tmod_eq_emod_of_nonneg u1]; omega
 have t2 : 0 ≤ Int.tmod (IntKind.u64.wrap wd) 58 ∧ Int.tmod (IntKind.u64.wrap wd) 58 < 58 := by rw [Int.tmod_eq_emod_of_nonneg u2]; omega
 have w1 : wrap64 (Int.tmod (IntKind.u64.wrap st) 3) = Int.tmod (IntKind.u64.wrap st) 3 := wrap_in (by omega) (by omega)
 have w2 : wrap64 (Int.tmod (IntKind.u64.wrap wd) 58) = Int.tmod (IntKind.u64.wrap wd) 58 := wrap_in (by omega) (by omega)
 have w3 : wrap64 (7 + Int.tmod (IntKind.u64.wrap wd) 58) = 7 + Int.tmod (IntKind.u64.wrap wd) 58 := wrap_in (by omega) (by omega)
 refine ⟨g0, g1, g2, Int.tmod (IntKind.u64.wrap st) 3, 7 + Int.tmod (IntKind.u64.wrap wd) 58, ⟨⟨l0, l1, l2⟩, by omega, by omega, by omega, .inl rfl⟩, by omega, ?_⟩
 unfold tripartitelaw12_Options.f
 refine Ev.bind (a := (a, b, c, false, ⟨#[]⟩, ⟨#[]⟩, ⟨#[]⟩, ⟨#[]⟩, false)) (Ev.const ?_) (Ev.bind e0 (Ev.bind e1 (Ev.bind e2 (Ev.val ?_))))
 ·rfl
 ·rw [w1, w2, w3]
theorem sumP_app (a b : List RP) : sumP (a ++ b) = sumP a + sumP b := by unfold sumP; rw [List.map_append, List.sum_append]
theorem sumP_one (x : RP) : sumP [x] = sizesP x := by unfold sumP; simp
theorem sumP_mem {l : List RP} {x : RP} (h : x ∈ l) : sizesP x ≤ sumP l := by
 obtain ⟨a, b, rfl⟩ := List.append_of_mem h
 rw [sumP_app, show x :: b = [x] ++ b from rfl, sumP_app, sumP_one]; omega
theorem joinP_size (z p : RP) : sizesP (joinP z p) ≤ sizesP z + sizesP p := by unfold sizesP joinP; simp only [ByteArray.size_append]; omega
theorem ofStep_le (out : List RP) (p : RP) : (ofStep out p).length ≤ out.length + 1 ∧ sumP (ofStep out p) ≤ sumP out + sizesP p := by
 by_cases hn : isNoneP p = true
 ·rw [ofStep_none _ _ hn]; omega
 rcases List.eq_nil_or_concat out with rfl | ⟨u, z, rfl⟩
 ·rw [ofStep_nil _ hn, sumP_one]; simp
 ·rw [List.concat_eq_append]
  by_cases hj : isTextP p = true ∧ isTextP z = true
  ·rw [ofStep_join u z p hn hj.1 hj.2]
   have := joinP_size z p
   simp only [sumP_app, sumP_one, List.length_append, List.length_singleton]
   omega
  ·rw [ofStep_put u z p hn hj]
   simp only [sumP_app, sumP_one, List.length_append, List.length_singleton]
   omega
theorem ofP_le : ∀ (l out : List RP), (l.foldl ofStep out).length ≤ out.length + l.length ∧ sumP (l.foldl ofStep out) ≤ sumP out + sumP l
 | [], out => by simp
 | p :: l, out => by
  have h1 := ofStep_le out p
  have h2 := ofP_le l (ofStep out p)
  rw [List.foldl_cons, show p :: l = [p] ++ l from rfl, sumP_app, sumP_one, List.length_append, List.length_singleton]
  omega
theorem catB_take (n : Nat) (l : List ByteArray) : (catB (l.take n)).size ≤ (catB l).size := by
 have := catB_append (l.take n) (l.drop n)
 rw [List.take_append_drop] at this
 rw [this, ByteArray.size_append]; omega
theorem catB_drop (n : Nat) (l : List ByteArray) : (catB (l.drop n)).size ≤ (catB l).size := by
 have := catB_append (l.take n) (l.drop n)
 rw [List.take_append_drop] at this
 rw [this, ByteArray.size_append]; omega
theorem catB_span (s : SSp) (l : List ByteArray) : (catB (spanL s l)).size ≤ (catB l).size := by
 unfold spanL
 split
 ·rw [catB_nil]; exact Nat.zero_le _
 ·exact Nat.le_trans (catB_drop _ _) (catB_take _ _)
theorem textR_size (s : ByteArray) : sizesP (textR s) = s.size := by
 have e0 : (⟨#[]⟩ : ByteArray).size = 0 := rfl
 unfold sizesP textR; simp only [e0]; omega
theorem hunkR_size (st : Int) (g0 g1 g2 : ByteArray) (b l r : List ByteArray) : sizesP (hunkR st g0 g1 g2 b l r) ≤ g0.size + g1.size + g2.size + (catB b).size + (catB l).size + (catB r).size := by
 have e0 : (⟨#[]⟩ : ByteArray).size = 0 := rfl
 have h1 : (catB (midL l (hoistN st l r) (hoistM st l r))).size ≤ (catB l).size := Nat.le_trans (catB_drop _ _) (catB_take _ _)
 have h2 : (catB (midL r (hoistN st l r) (hoistM st l r))).size ≤ (catB r).size := Nat.le_trans (catB_drop _ _) (catB_take _ _)
 unfold sizesP hunkR
 by_cases h : st = 0
 ·simp only [if_pos h, e0]; omega
 ·simp only [if_neg h, e0]; omega
theorem pieceR_le (st fv : Int) (g0 g1 g2 : ByteArray) (k : Int) (b l r : List ByteArray) (hb : (catB b).size ≤ 250) (hl : (catB l).size ≤ 250) (hr : (catB r).size ≤ 250) (hg : g0.size + g1.size + g2.size ≤ 500) :
  (pieceR st fv g0 g1 g2 k b l r).length ≤ 3 ∧ sumP (pieceR st fv g0 g1 g2 k b l r) ≤ 2000 := by
 unfold pieceR
 split
 ·rw [sumP_one, textR_size]; exact ⟨by simp, by omega⟩
 split
 ·rw [sumP_one, textR_size]; exact ⟨by simp, by omega⟩
 split
 ·rw [sumP_one, textR_size]; exact ⟨by simp, by omega⟩
 ·have h1 := catB_take (hoistN st l r) l
  have h2 := catB_drop (l.length - hoistM st l r) l
  have h3 := hunkR_size st g0 g1 g2 b l r
  refine ⟨by simp, ?_⟩
  rw [show ∀ x y z : RP, [x, y, z] = [x] ++ ([y] ++ [z]) from fun _ _ _ => rfl, sumP_app, sumP_app, sumP_one, sumP_one, sumP_one, textR_size, textR_size]
  omega
theorem flat_le (f : SC → List RP) (h : ∀ c, (f c).length ≤ 3 ∧ sumP (f c) ≤ 2000) : ∀ cs : List SC, (cs.flatMap f).length ≤ 3 * cs.length ∧ sumP (cs.flatMap f) ≤ 2000 * cs.length
 | [] => by simp [sumP]
 | c :: cs => by
  have h1 := h c
  have h2 := flat_le f h cs
  rw [List.flatMap_cons, sumP_app, List.length_append, List.length_cons]
  omega
theorem docB_le {st fv : Int} {g0 g1 g2 : ByteArray} {B L R : List ByteArray} {cs : List SC} (hb : (catB B).size ≤ 250) (hl : (catB L).size ≤ 250) (hr : (catB R).size ≤ 250) (hg : g0.size + g1.size + g2.size ≤ 500) (hc : cs.length ≤ 501) :
  (docB st fv g0 g1 g2 B L R cs).length ≤ 1503 ∧ sumP (docB st fv g0 g1 g2 B L R cs) ≤ 1002000 := by
 have h1 := flat_le (partsR st fv g0 g1 g2 B L R) (fun c => pieceR_le st fv g0 g1 g2 _ _ _ _ (Nat.le_trans (catB_span c.f1 B) hb) (Nat.le_trans (catB_span c.f2 L) hl) (Nat.le_trans (catB_span c.f3 R) hr) hg) cs
 have h2 := ofP_le (cs.flatMap (partsR st fv g0 g1 g2 B L R)) []
 unfold docB ofP
 have e : sumP [] = 0 := rfl
 rw [e, List.length_nil] at h2
 omega
theorem lineL_le (k : Int) (fl : Bool) (lb : ByteArray) (w : Int) : (lineL k fl lb w).length ≤ w.toNat + lb.size + 3 := by
 have h := size_data lb
 unfold lineL
 rw [lineB_markL, data_toB]
 unfold markL
 simp only [List.length_append, List.length_replicate, List.length_singleton]
 have h1 : (if fl = true then [(33 : UInt8)] else []).length ≤ 1 := by split <;> simp
 have h2 : (if lb.data.toList.isEmpty = true then [] else (32 : UInt8) :: lb.data.toList).length ≤ lb.size + 1 := by split <;> simp
 omega
theorem sideL_le (s : ByteArray) (q : Bool) : (sideL s q).length ≤ s.size + 1 := by
 have h := size_data s
 unfold sideL
 rw [List.length_append]
 have h1 : (if lacksB s q = true then [(10 : UInt8)] else []).length ≤ 1 := by split <;> simp
 omega
theorem partL_le (w : Int) (hw : w ≤ 300) (x : RP) : (partL w (to106 x)).length ≤ sizesP x + 1300 := by
 have hx := size_data x.f4
 unfold partL
 rw [List.length_append]
 have e4 : (to106 x).f2 = x.f4 := rfl
 rw [e4]
 split
 ·unfold hunkL
  have a1 := lineL_le 60 false (to106 x).f0.f0 w
  have a2 := sideL_le (to106 x).f3 (sufQ (to106 x).f3)
  have a3 := lineL_le 124 (lacksB (to106 x).f3 (sufQ (to106 x).f3)) (to106 x).f0.f1 w
  have a4 := sideL_le (to106 x).f4 (sufQ (to106 x).f4)
  have a5 := lineL_le 61 (if (to106 x).f6 = true then lacksB (to106 x).f4 (sufQ (to106 x).f4) else lacksB (to106 x).f3 (sufQ (to106 x).f3)) ⟨#[]⟩ w
  have a6 := sideL_le (to106 x).f5 (sufQ (to106 x).f5)
  have a7 := lineL_le 62 (lacksB (to106 x).f5 (sufQ (to106 x).f5)) (to106 x).f0.f2 w
  have e0 : (⟨#[]⟩ : ByteArray).size = 0 := rfl
  have b1 : (to106 x).f0.f0 = x.f0 := rfl
  have b2 : (to106 x).f0.f1 = x.f1 := rfl
  have b3 : (to106 x).f0.f2 = x.f2 := rfl
  have b4 : (to106 x).f3 = x.f5 := rfl
  have b5 : (to106 x).f4 = x.f6 := rfl
  have b6 : (to106 x).f5 = x.f7 := rfl
  rw [b1] at a1
  rw [b4] at a2
  rw [b2] at a3
  rw [b5] at a4
  rw [b6] at a6
  rw [b3] at a7
  rw [e0] at a5
  rw [b1, b2, b3, b4, b5, b6]
  rw [b4] at a3
  rw [b4, b5] at a5
  rw [b6] at a7
  simp only [List.length_append]
  have a8 : (if (to106 x).f6 = true then lineL 124 (lacksB x.f5 (sufQ x.f5)) x.f1 w ++ sideL x.f6 (sufQ x.f6) else []).length ≤ (lineL 124 (lacksB x.f5 (sufQ x.f5)) x.f1 w).length + (sideL x.f6 (sufQ x.f6)).length := by split <;> simp
  unfold sizesP
  omega
 ·unfold sizesP; simp; omega
theorem printL_le (w : Int) (hw : w ≤ 300) : ∀ l : List RP, (printL w (l.map to106)).length ≤ sumP l + 1300 * l.length
 | [] => by simp [printL]
 | x :: l => by
  have h1 := partL_le w hw x
  have h2 := printL_le w hw l
  unfold printL at *
  rw [List.map_cons, List.flatMap_cons, List.length_append, show x :: l = [x] ++ l from rfl, sumP_app, sumP_one, List.length_append, List.length_singleton]
  omega
theorem printP_le (l : List RP) (w : Int) (hw : w ≤ 300) : (printP l w).1.size ≤ sumP l + 1300 * l.length := by
 have h := printL_le w hw l
 have e0 : (⟨#[]⟩ : ByteArray).size = 0 := rfl
 unfold printP
 split
 ·split
  ·split
   ·show (toB _).size ≤ _
    rw [← size_data, data_toB]; exact h
   ·show (⟨#[]⟩ : ByteArray).size ≤ _
    omega
  ·show (⟨#[]⟩ : ByteArray).size ≤ _
   omega
 ·show (⟨#[]⟩ : ByteArray).size ≤ _
  omega
theorem widthB_300 {wd : Int} {a b c : ByteArray} (hw : wd ≤ 64) (ha : a.size ≤ 250) (hb : b.size ≤ 250) (hc : c.size ≤ 250) : widthB wd a b c ≤ 300 := by
 have h1 := textRun_bound a
 have h2 := textRun_bound b
 have h3 := textRun_bound c
 unfold widthB
 rcases mx_cases (textRun a) (textRun b) with h | h <;> rcases mx_cases (mx (textRun a) (textRun b)) (textRun c) with g | g <;> rcases mx_cases wd (mx (mx (textRun a) (textRun b)) (textRun c) + 1) with f | f <;> omega
theorem ev_merge {a b c g0 g1 g2 : ByteArray} {st wd fv : Int} (ho : Okay g0 g1 g2 st wd fv) (hg : g0.size + g1.size + g2.size ≤ 500) (ha : a.size ≤ 250) (hb : b.size ≤ 250) (hc : c.size ≤ 250) :
  ∃ d lp rp cs t, Merged (splitB a) (splitB b) (splitB c) lp rp cs ∧ cs.length ≤ 501 ∧ t = (printP (docB st fv g0 g1 g2 (splitB a) (splitB b) (splitB c) cs) (widthB wd a b c)).1 ∧ t.size ≤ 10000000 ∧
   Ev (fun k => textsF k a b c g0 g1 g2 st wd fv) (d, lp, rp, cs, t, widthB wd a b c, countB (splitB a) (splitB b) (splitB c) cs, 0) := by
 obtain ⟨lp, rp, cs, h⟩ := merged_of a b c (by omega) (by omega) (by omega)
 have q1 := (chunk_count h.steps).1
 have q2 := splitB_length a
 have hle := docB_le (st := st) (fv := fv) (cs := cs) (g0 := g0) (g1 := g1) (g2 := g2) (B := splitB a) (L := splitB b) (R := splitB c) (by rw [cat_split]; exact ha) (by rw [cat_split]; exact hb) (by rw [cat_split]; exact hc) hg (by omega)
 have hp := printP_le (docB st fv g0 g1 g2 (splitB a) (splitB b) (splitB c) cs) (widthB wd a b c) (widthB_300 ho.wid.2 ha hb hc)
 exact ⟨_, lp, rp, cs, _, h, by omega, rfl, by omega, ev_texts ho h (by omega) (by omega) (fun x hx => by have := sumP_mem hx; omega)⟩
theorem cls_turn (c : SC) (B L R : List ByteArray) : clsI (turnC c) B R L = 4 ↔ clsI c B L R = 4 := by
 unfold clsI turnC
 simp only
 by_cases h0 : c.f0 = true
 ·rw [if_pos h0, if_pos h0]
 ·rw [if_neg h0, if_neg h0]
  by_cases h1 : spanL c.f1 B = spanL c.f2 L <;> by_cases h2 : spanL c.f1 B = spanL c.f3 R
  ·rw [if_pos h2, if_pos h1]
  ·rw [if_neg h2, if_pos h1, if_pos h1]; decide
  ·rw [if_pos h2, if_neg h1, if_pos h2]; decide
  ·rw [if_neg h2, if_neg h1, if_neg h1, if_neg h2]
   by_cases h3 : spanL c.f2 L = spanL c.f3 R
   ·rw [if_pos h3, if_pos h3.symm]
   ·rw [if_neg h3, if_neg (fun e => h3 e.symm)]
theorem count_turn (B L R : List ByteArray) (cs : List SC) : countB B R L (cs.map turnC) = countB B L R cs := by
 unfold countB
 rw [List.filter_map, List.length_map]
 congr 2
 refine List.filter_congr (fun c _ => ?_)
 exact decide_eq_decide.2 (cls_turn c B L R)
theorem parts_turn {st fv : Int} {g0 g1 g2 h0 h1 h2 : ByteArray} {B L R : List ByteArray} {c : SC} (h : clsI c B L R ≠ 4) : partsR st fv g0 g1 g2 B L R c = partsR st fv h0 h1 h2 B R L (turnC c) := by
 revert h
 unfold partsR clsI turnC
 simp only
 by_cases q0 : c.f0 = true
 ·rw [if_pos q0, if_pos q0]
  intro _
  rfl
 ·rw [if_neg q0, if_neg q0]
  generalize spanL c.f1 B = b
  generalize spanL c.f2 L = l
  generalize spanL c.f3 R = r
  by_cases q1 : b = l <;> by_cases q2 : b = r
  ·subst q1; subst q2; simp [pieceR]
  ·subst q1; simp [pieceR, q2]
  ·subst q2; simp [pieceR, q1]
  ·by_cases q3 : l = r
   ·subst q3; simp [pieceR, q1]
   ·simp [q1, q2, q3]
theorem doc_turn {st fv : Int} {g0 g1 g2 h0 h1 h2 : ByteArray} {B L R : List ByteArray} {cs : List SC} (h : countB B L R cs = 0) : docB st fv g0 g1 g2 B L R cs = docB st fv h0 h1 h2 B R L (cs.map turnC) := by
 have hall : ∀ c ∈ cs, clsI c B L R ≠ 4 := by
  intro c hc e
  unfold countB at h
  have hn : cs.filter (fun c => decide (clsI c B L R = 4)) = [] := List.eq_nil_of_length_eq_zero (by omega)
  have := List.filter_eq_nil_iff.1 hn c hc
  exact this (decide_eq_true e)
 unfold docB
 congr 1
 rw [List.flatMap_map]
 clear h
 induction cs with
 | nil => rfl
 | cons c cs ih =>
  rw [List.flatMap_cons, List.flatMap_cons, ih (fun x hx => hall x (List.mem_cons_of_mem _ hx)), parts_turn (hall c (List.mem_cons_self ..))]
theorem widthB_turn (wd : Int) (a b c : ByteArray) : widthB wd a b c = widthB wd a c b := by
 unfold widthB
 have e : mx (mx (textRun a) (textRun b)) (textRun c) = mx (mx (textRun a) (textRun c)) (textRun b) := by
  rcases mx_cases (textRun a) (textRun b) with h | h <;> rcases mx_cases (textRun a) (textRun c) with h' | h' <;> rcases mx_cases (mx (textRun a) (textRun b)) (textRun c) with g | g <;> rcases mx_cases (mx (textRun a) (textRun c)) (textRun b) with g' | g' <;> omega
 rw [e]
end Go.Proofs.Ytfiamddinkokbaa.F
end

section
namespace Go.Proofs.Ytfiamddinkokbaa.F
open Go.RowKit Go.Shelf Go.Proofs.YtfiamddinkokbaaW.PrintWords
attribute [local go_sem high] eqA91
theorem two_off {W : World} {g8 g9 : Nat} {O : Obj} {x y : Value} (hne : g8 ≠ g9) (hO : W.heap[g8]? = some O) : ((W.setCell ⟨g9, 0, none⟩ x).setCell ⟨g9, 2, none⟩ y).drew.heap[g8]? = some O := by
 show ((W.setCell ⟨g9, 0, none⟩ x).setCell ⟨g9, 2, none⟩ y).heap[g8]? = some O
 rw [Below.heap_setCell _ _ _ _ hne, Below.heap_setCell _ _ _ _ hne]; exact hO
theorem two_on {W : World} {g : Nat} {T : TypeId} {u0 u1 u2 u3 u4 u5 x y : Value} (h : W.heap[g]? = some (.cells #[u0, u1, u2, u3, u4, u5] T (0, 0))) : ((W.setCell ⟨g, 0, none⟩ x).setCell ⟨g, 2, none⟩ y).drew.heap[g]? = some (.cells #[x, u1, y, u3, u4, u5] T (0, 0)) := by
 show ((W.setCell ⟨g, 0, none⟩ x).setCell ⟨g, 2, none⟩ y).heap[g]? = _
 simp [World.setCell, Array.getElem?_modify, h]
theorem turns_facts {x y z g0 g1 g2 : ByteArray} {st wd : Int} (ho : Okay g0 g1 g2 st wd 0) (hg : g0.size + g1.size + g2.size ≤ 500) (sx : x.size ≤ 250) (sy : y.size ≤ 250) (sz : z.size ≤ 250) :
  ∃ (k1 k2 m : Nat) (d1 d2 : List PP) (lp1 rp1 lp2 rp2 : List SP) (cs1 cs2 : List SC) (W1 W2 n : Int) (t1 t2 : ByteArray), textsF k1 x y z g0 g1 g2 st wd 0 = some (d1, lp1, rp1, cs1, t1, W1, n, 0) ∧ textsF k2 x z y g2 g1 g0 st wd 0 = some (d2, lp2, rp2, cs2, t2, W2, n, 0) ∧
   m ≤ 1000 ∧ cs1.length = m ∧ cs2.length = m ∧ (n = 0 → t1 = t2) ∧ ∀ i : Nat, i < m → rd_T91 cs2 (i : Int) = turnC (rd_T91 cs1 (i : Int)) := by
 obtain ⟨d1, lp1, rp1, cs1, t1, m1, hc, et1, _, e1⟩ := ev_merge ho hg sx sy sz
 obtain ⟨d2, lp2, rp2, cs2, t2, m2, _, et2, _, e2⟩ := ev_merge (g0 := g2) (g1 := g1) (g2 := g0) (a := x) (b := z) (c := y) ⟨⟨ho.lab.2.2, ho.lab.2.1, ho.lab.1⟩, by have := ho.labs; omega, ho.sty, ho.wid, ho.fav⟩ (by omega) sx sz sy
 obtain ⟨k1, h1⟩ := e1.get
 obtain ⟨k2, h2⟩ := e2.get
 obtain ⟨_, _, rfl⟩ := m1.turn m2
 rw [count_turn] at h2
 refine ⟨k1, k2, _, d1, d2, lp1, rp1, lp2, rp2, cs1, _, _, _, _, t1, t2, h1, h2, by omega, rfl, by rw [List.length_map], fun hn => ?_, fun i hi => ?_⟩
 ·rw [et1, et2, widthB_turn wd x y z, doc_turn (h0 := g2) (h1 := g1) (h2 := g0) hn]
 ·unfold rd_T91
  rw [Int.toNat_natCast, List.getD_eq_getElem?_getD, List.getD_eq_getElem?_getD, List.getElem?_map, List.getElem?_eq_getElem hi]
  rfl
set_option maxHeartbeats 8000000 in
set_option maxRecDepth 100000 in
theorem turns_no {a0 a1 a2 g0 g1 g2 : ByteArray} {st wd fv : Int} {w : World} (s0 : g0.size ≤ 140737488351232) (s1 : g1.size ≤ 140737488351232) (s2 : g2.size ≤ 140737488351232) (hf : ¬ g0.size + g1.size + g2.size ≤ 500) :
  Calls Try.prog 17 #[.agg #[.string a0, .string a1, .string a2], .agg #[.int .i64 st, .int .i64 wd, .int .i64 fv, .string g0, .string g1, .string g2]] w fun e w' => e = .returned (.bool true) ∧ Below w.heap.size w w' := by
 have HF := Aside0.mk (fun W => few_bool (st := st) (wd := wd) (fv := fv) s0 s1 s2 W)
 rw [decide_eq_false hf] at HF
 have HT := Aside0.mk (fun W => told12_calls W)
 clear s0 s1 s2 hf
 go_enter Try.func17, Try.ntmps17
 go_wp2_with (first
  | (go_at_call 68; (with_reducible refine (HF.out _).mono ?_); rintro e w1 ⟨rfl, hb⟩; have HB := Aside0.mk (below_step (below_alloc (below_alloc (Below.refl _ _) _) _) hb); have HT3 := Aside0.mk (af2 hb); have HH3 := Aside0.mk (af4 hb); clear hb)
  | (go_at_call 69; (with_reducible refine (HT.out _).mono ?_); rintro e w2 ⟨rfl, hb⟩; have HB2 := Aside0.mk (below_step HB.out hb); clear hb))
 go_ret
 exact ⟨rfl, HB2.out⟩
set_option maxHeartbeats 16000000 in
set_option maxRecDepth 100000 in
theorem turns_yes {a0 a1 a2 g0 g1 g2 : ByteArray} {st wd fv : Int} {w : World} (s0 : g0.size ≤ 140737488351232) (s1 : g1.size ≤ 140737488351232) (s2 : g2.size ≤ 140737488351232) (hf : g0.size + g1.size + g2.size ≤ 500) :
  Calls Try.prog 17 #[.agg #[.string a0, .string a1, .string a2], .agg #[.int .i64 st, .int .i64 wd, .int .i64 fv, .string g0, .string g1, .string g2]] w fun e w' => e = .returned (.bool true) ∧ Below w.heap.size w w' := by
 have HF := Aside0.mk (fun W => few_bool (st := st) (wd := wd) (fv := fv) s0 s1 s2 W)
 rw [decide_eq_true hf] at HF
 have HT := Aside0.mk (fun W => told12_calls W)
 obtain ⟨x, hx, sx⟩ := short_f a0
 obtain ⟨y, hy, sy⟩ := short_f a1
 obtain ⟨z, hz, sz⟩ := short_f a2
 have HX := Aside0.mk (fun W => tripartitelaw12_Short.calls a0 x W hx)
 have HY := Aside0.mk (fun W => tripartitelaw12_Short.calls a1 y W hy)
 have HZ := Aside0.mk (fun W => tripartitelaw12_Short.calls a2 z W hz)
 obtain ⟨l0, l1, l2, st', wd', ho, hg, he⟩ := ev_options2 st wd fv g0 g1 g2 hf
 obtain ⟨ko, hk⟩ := he.get
 have HO := Aside0.mk (fun W => tripartitelaw12_Options.calls ko st wd fv g0 g1 g2 l0 l1 l2 st' wd' 0 W hk)
 obtain ⟨k1, k2, m, d1, d2, lp1, rp1, lp2, rp2, cs1, cs2, W1, W2, n, t1, t2, h1, h2, hm4, e1, e2, hn0, ht⟩ := turns_facts ho hg sx sy sz
 have H1 := Aside0.mk (fun W => texts_toldN h1 e1 W)
 have H2 := Aside0.mk (fun W => texts_toldN h2 e2 W)
 have HTR := Aside0.mk ht
 have HN0 := Aside0.mk hn0
 have tkX : True := trivial
 have tkY : True := trivial
 have tkZ : True := trivial
 clear s0 s1 s2 hf hx sx hy sy hz sz ho hg he hk h1 h2 e1 e2 ht hn0
 go_enter Try.func17, Try.ntmps17
 go_wp2_with (first
  | (go_at_call 68; (with_reducible refine (HF.out _).mono ?_); rintro e w1 ⟨rfl, hb⟩; have HB := Aside0.mk (below_step (below_alloc (below_alloc (Below.refl _ _) _) _) hb); have HT3 := Aside0.mk (af2 hb); have HH3 := Aside0.mk (af4 hb); clear hb))
 have q0 := (blk_cell HT3.out 0).trans (rfl : _ = some (Value.string a0))
 have q1 := (blk_cell HT3.out 1).trans (rfl : _ = some (Value.string a1))
 have q2 := (blk_cell HT3.out 2).trans (rfl : _ = some (Value.string a2))
 have HQ : Aside0 (Below w1.heap.size w1 w1.drew) := ⟨below_drew (Below.refl _ _)⟩
 go_region_held3 (fun w' => w'.cell? ⟨w.heap.size, 0, none⟩ = some (.string a0) ∧ w'.cell? ⟨w.heap.size, 1, none⟩ = some (.string a1) ∧ w'.cell? ⟨w.heap.size, 2, none⟩ = some (.string a2))
  ((refine (fun (hb : Below w1.heap.size w1 _) => ⟨(hb.cell (World.block_lt_of_cell? w1 _ q0)).trans q0, (hb.cell (World.block_lt_of_cell? w1 _ q1)).trans q1, (hb.cell (World.block_lt_of_cell? w1 _ q2)).trans q2⟩) ?_; exact HQ.out))
  (first
   | ((refine Go.Proofs.YtfiamddinkokbaaW.PrintLast.goes_ Try.func57 (by kernel_rfl) rfl #[.string a0] (by rfl) rfl rfl (by (try simp only [List.map_toArray, List.map_cons, List.map_nil]); rfl) ?_; have _t := tkX; refine (HX.out _).mono ?_; rintro e wa ⟨rfl, hb⟩; have hq := below_step HQ.out hb; clear tkX HQ hb; have HQ := Aside0.mk hq; clear hq; refine ⟨_, rfl, ?_⟩))
   | ((refine Go.Proofs.YtfiamddinkokbaaW.PrintLast.goes_ Try.func57 (by kernel_rfl) rfl #[.string a1] (by rfl) rfl rfl (by (try simp only [List.map_toArray, List.map_cons, List.map_nil]); rfl) ?_; have _t := tkY; refine (HY.out _).mono ?_; rintro e wb ⟨rfl, hb⟩; have hq := below_step HQ.out hb; clear tkY HQ hb; have HQ := Aside0.mk hq; clear hq; refine ⟨_, rfl, ?_⟩))
   | ((refine Go.Proofs.YtfiamddinkokbaaW.PrintLast.goes_ Try.func57 (by kernel_rfl) rfl #[.string a2] (by rfl) rfl rfl (by (try simp only [List.map_toArray, List.map_cons, List.map_nil]); rfl) ?_; have _t := tkZ; refine (HZ.out _).mono ?_; rintro e w3 ⟨rfl, hb⟩; have hq := below_step HQ.out hb; clear tkZ HQ hb; have HQ := Aside0.mk hq; clear hq; refine ⟨_, rfl, ?_⟩)))
 have HB3 := Aside0.mk (below_step HB.out HQ.out)
 have HX53 := Aside0.mk (after_call HQ.out HH3.out)
 clear q0 q1 q2 HQ HB HT3 HH3 HX HY HZ HF
 have m0 := (blk_cell HX53.out 0).trans (rfl : _ = some (Value.int .i64 st))
 have m1 := (blk_cell HX53.out 1).trans (rfl : _ = some (Value.int .i64 wd))
 have m2 := (blk_cell HX53.out 2).trans (rfl : _ = some (Value.int .i64 fv))
 have m3 := (blk_cell HX53.out 3).trans (rfl : _ = some (Value.string g0))
 have m4 := (blk_cell HX53.out 4).trans (rfl : _ = some (Value.string g1))
 have m5 := (blk_cell HX53.out 5).trans (rfl : _ = some (Value.string g2))
 go_wp2_with (first
  | (go_at_call 59; (with_reducible refine (HO.out _).mono ?_); rintro e w4 ⟨rfl, hb⟩; have HB4 := Aside0.mk (below_step HB3.out hb); clear hb m0 m1 m2 m3 m4 m5))
 obtain ⟨g8, hg8⟩ : ∃ g, g = w4.heap.size := ⟨_, rfl⟩
 obtain ⟨g9, hg9⟩ : ∃ g, g = w4.heap.size + 1 := ⟨_, rfl⟩
 have hO := blk_alloc (World.alloc_heap_new w4 (.cells #[.string l0, .string l1, .string l2, .int .i64 st', .int .i64 wd', .int .i64 0] 86)) (.cells #[.string l0, .string l1, .string l2, .int .i64 st', .int .i64 wd', .int .i64 0] 86)
 have hP := World.alloc_heap_new (w4.alloc (.cells #[.string l0, .string l1, .string l2, .int .i64 st', .int .i64 wd', .int .i64 0] 86)) (.cells #[.string l0, .string l1, .string l2, .int .i64 st', .int .i64 wd', .int .i64 0] 86)
 rw [World.size_alloc] at hP
 have hW := below_alloc (below_alloc HB4.out (.cells #[.string l0, .string l1, .string l2, .int .i64 st', .int .i64 wd', .int .i64 0] 86)) (.cells #[.string l0, .string l1, .string l2, .int .i64 st', .int .i64 wd', .int .i64 0] 86)
 have hlo := HB4.out.size
 generalize (w4.alloc (.cells #[.string l0, .string l1, .string l2, .int .i64 st', .int .i64 wd', .int .i64 0] 86)).alloc (.cells #[.string l0, .string l1, .string l2, .int .i64 st', .int .i64 wd', .int .i64 0] 86) = W0 at *
 rw [← hg8] at hO
 rw [← hg9] at hP
 rw [← hg9, ← hg8]
 have h89 : g8 < g9 := by omega
 have HLO8 := Aside0.mk (show w.heap.size ≤ g8 by omega)
 have H89 := Aside0.mk h89
 clear hg8 hg9 hlo HB4 HB3 HX53 HO
 have HO0 := Aside0.mk hO
 have HP0 := Aside0.mk hP
 have HW0 := Aside0.mk hW
 clear hO hP hW h89
 have q0 : W0.cell? ⟨g8, 0, none⟩ = some (.string l0) := (blk_cell HO0.out 0).trans rfl
 have q2 : W0.cell? ⟨g8, 2, none⟩ = some (.string l2) := (blk_cell HO0.out 2).trans rfl
 have c0 : W0.cell? ⟨g9, 0, none⟩ = some (.string l0) := (blk_cell HP0.out 0).trans rfl
 have c2 : W0.cell? ⟨g9, 2, none⟩ = some (.string l2) := (blk_cell HP0.out 2).trans rfl
 have f0 : W0.frozen? ⟨g9, 0, none⟩ = false := blk_frozen HP0.out 0
 have f2 : W0.frozen? ⟨g9, 2, none⟩ = false := blk_frozen HP0.out 2
 have hne : g9 ≠ g8 := by have := H89.out; omega
 have hne' : g8 ≠ g9 := fun e => hne e.symm
 go_cut [4] (fun v4 wc => v4 = .bool false ∧ Aside0 (wc.heap[g8]? = some (.cells #[.string l0, .string l1, .string l2, .int .i64 st', .int .i64 wd', .int .i64 0] 86 (0, 0))) ∧ Aside0 (wc.heap[g9]? = some (.cells #[.string l2, .string l1, .string l0, .int .i64 st', .int .i64 wd', .int .i64 0] 86 (0, 0))) ∧ Aside0 (Below w.heap.size w wc))
 case first =>
  have hmx : Try.prog.follows Departure.mixedOrders = true := by kernel_rfl
  go_region_o
  all_goals go_wp2
  all_goals go_meet
  all_goals exact ⟨rfl, ⟨two_off hne' HO0.out⟩, ⟨two_on HP0.out⟩, ⟨below_drew (below_set (below_set HW0.out (by have := HLO8.out; have := H89.out; omega)) (by have := HLO8.out; have := H89.out; omega))⟩⟩
 case rest =>
  obtain ⟨rfl, HO6, HP6, HW6⟩ := hcut
  clear q0 q2 c0 c2 f0 f2 HO0 HP0 HW0 HLO8 H89
  have m0 := (blk_cell HO6.out 0).trans (rfl : _ = some (Value.string l0))
  have m1 := (blk_cell HO6.out 1).trans (rfl : _ = some (Value.string l1))
  have m2 := (blk_cell HO6.out 2).trans (rfl : _ = some (Value.string l2))
  have m3 := (blk_cell HO6.out 3).trans (rfl : _ = some (Value.int .i64 st'))
  have m4 := (blk_cell HO6.out 4).trans (rfl : _ = some (Value.int .i64 wd'))
  have m5 := (blk_cell HO6.out 5).trans (rfl : _ = some (Value.int .i64 0))
  go_wp2_with (first
   | (go_at_call 58; (with_reducible refine (H1.out _).mono ?_); rintro e w5 ⟨A0, A1, A2, A3, n0, c0, n1, c1, n2, c2, c3, rfl, hr, hb⟩; have HC1 := Aside0.mk hr; have HB5 := Aside0.mk (below_step HW6.out hb); have HP5 := Aside0.mk (after_call hb HP6.out); clear hb hr m0 m1 m2 m3 m4 m5; have p0 : ∀ o, (w5.alloc o).cell? ⟨g9, 0, none⟩ = some (Value.string l2) := fun o => tr1 o ((blk_cell HP5.out 0).trans rfl); have p1 : ∀ o, (w5.alloc o).cell? ⟨g9, 1, none⟩ = some (Value.string l1) := fun o => tr1 o ((blk_cell HP5.out 1).trans rfl); have p2 : ∀ o, (w5.alloc o).cell? ⟨g9, 2, none⟩ = some (Value.string l0) := fun o => tr1 o ((blk_cell HP5.out 2).trans rfl); have p3 : ∀ o, (w5.alloc o).cell? ⟨g9, 3, none⟩ = some (Value.int .i64 st') := fun o => tr1 o ((blk_cell HP5.out 3).trans rfl); have p4 : ∀ o, (w5.alloc o).cell? ⟨g9, 4, none⟩ = some (Value.int .i64 wd') := fun o => tr1 o ((blk_cell HP5.out 4).trans rfl); have p5 : ∀ o, (w5.alloc o).cell? ⟨g9, 5, none⟩ = some (Value.int .i64 0) := fun o => tr1 o ((blk_cell HP5.out 5).trans rfl); clear HO6)
   | (go_at_call 58; (with_reducible refine (H2.out _).mono ?_); rintro e w6 ⟨B0, B1, B2, B3, n0', c0', n1', c1', n2', c2', c3', rfl, hr, hb⟩; have HC2 := Aside0.mk hr; have hq := Kd.C_below (Kd.C_alloc HC1.out _) hb; clear HC1; have HC1 := Aside0.mk hq; clear hq; have HB6 := Aside0.mk (below_step (below_alloc HB5.out _) hb); have HR6 := Aside0.mk (after_alloc hb); clear hb hr p0 p1 p2 p3 p4 p5))
  have HN1 : Aside0 (n = 0 ∧ t1 = t2 ∨ n ≠ 0) := ⟨by by_cases hn : n = 0; exact .inl ⟨hn, HN0.out hn⟩; exact .inr hn⟩
  clear HN0
  have HSP := HN1.out
  clear HN1
  rcases HSP with ⟨rfl, rfl⟩ | hn1
  rotate_left
  have hn2 : (n == 0) = false := beq_eq_false_iff_ne.2 hn1
  have hn3 : decide (n = 0) = false := decide_eq_false hn1
  rotate_left
  all_goals go_wp2_with (first
   | (go_at_call 69; (with_reducible refine (HT.out _).mono ?_); rintro e w8 ⟨rfl, hb⟩; have hq1 := Kd.C_below (Kd.C_alloc HC1.out _) hb; have hq2 := Kd.C_below (Kd.C_alloc HC2.out _) hb; clear HC1 HC2; have HC1 := Aside0.mk hq1; have HC2 := Aside0.mk hq2; clear hq1 hq2; have HB8 := Aside0.mk (below_step (below_alloc HB6.out _) hb); have HR8 := Aside0.mk (after_call hb (blk_alloc HR6.out _)); have HS8 := Aside0.mk (after_alloc hb); have r3 := (blk_cell HR8.out 3).trans (rfl : _ = some (Value.slice A3 m c3)); have u3 := (blk_cell HS8.out 3).trans (rfl : _ = some (Value.slice B3 m c3')); have r4 := (blk_cell HR8.out 4).trans (rfl : _ = some (Value.string _)); have u4 := (blk_cell HS8.out 4).trans (rfl : _ = some (Value.string _)); have r6 := (blk_cell HR8.out 6).trans (rfl : _ = some (Value.int .i64 _)); have u6 := (blk_cell HS8.out 6).trans (rfl : _ = some (Value.int .i64 _)); clear hb))
  all_goals clear r3 u3 r4 u4 r6 u6 HB5 HB6 HR6 H1 H2 HT
  all_goals go_loopg [14] m (fun gg s14_ wr => ∃ i : Nat, i ≤ m ∧ m - i ≤ gg ∧ s14_ = .int .i64 i ∧ Aside0 (Below w8.heap.size w8 wr))
  all_goals first
   | exact ⟨0, Nat.zero_le _, by omega, rfl, ⟨Below.refl _ _⟩⟩
   | skip
  all_goals obtain ⟨i, hi, hg, rfl, HW⟩ := hrel
  all_goals have HR := Aside0.mk (after_call HW.out HR8.out)
  all_goals have HS := Aside0.mk (after_call HW.out HS8.out)
  all_goals have r3 := (blk_cell HR.out 3).trans (rfl : _ = some (Value.slice A3 m c3))
  all_goals have u3 := (blk_cell HS.out 3).trans (rfl : _ = some (Value.slice B3 m c3'))
  all_goals by_cases hlt : i < m
  all_goals first
   | (have hge : ¬ (i : Int) < (m : Int) := (by omega); have qd : decide ((i : Int) < (m : Int)) = false := decide_eq_false hge; have HBx := Aside0.mk (below_step HB8.out HW.out); go_wp2; go_ret; exact ⟨rfl, HBx.out⟩)
   | skip
  all_goals have hltz : (i : Int) < (m : Int) := by omega
  all_goals have tr := HTR.out i hlt
  all_goals obtain ⟨ad, ea, hx0, hx1, hx2, hx3, hx4, hx5, hx6⟩ := at_T91 (Kd.C_below HC1.out HW.out) (i : Int) (by omega) hltz
  all_goals obtain ⟨bd, eb, hy0, hy1, hy2, hy3, hy4, hy5, hy6⟩ := at_T91 (Kd.C_below HC2.out HW.out) (i : Int) (by omega) hltz
  all_goals rw [ea] at r3
  all_goals rw [eb] at u3
  all_goals rw [tr] at hy0 hy1 hy2 hy3 hy4 hy5 hy6
  all_goals generalize rd_T91 cs1 (i : Int) = ch at hx0 hx1 hx2 hx3 hx4 hx5 hx6 hy0 hy1 hy2 hy3 hy4 hy5 hy6
  all_goals obtain ⟨b, ⟨p0, p1⟩, ⟨q0, q1⟩, ⟨s0, s1⟩⟩ := ch
  all_goals simp only [turnC, Int.toNat_natCast] at hx0 hx1 hx2 hx3 hx4 hx5 hx6 hy0 hy1 hy2 hy3 hy4 hy5 hy6
  all_goals have HQ : Aside0 (Below wr.heap.size wr wr.drew) := ⟨below_drew (Below.refl _ _)⟩
  all_goals clear tr ea eb
  all_goals go_wp2
  all_goals go_region_held3 (fun w' => w'.cell? ⟨w5.heap.size, 3, none⟩ = some (.slice (some ad) m c3) ∧ w'.cell? ⟨w6.heap.size, 3, none⟩ = some (.slice (some bd) m c3') ∧ w'.cell? (ad.add (i * 7)) = some (.bool b) ∧ w'.cell? ⟨(ad.add (i * 7)).block, (ad.add (i * 7)).off + 1, none⟩ = some (.int .i64 p0) ∧ w'.cell? ⟨(ad.add (i * 7)).block, (ad.add (i * 7)).off + 2, none⟩ = some (.int .i64 p1) ∧ w'.cell? ⟨(ad.add (i * 7)).block, (ad.add (i * 7)).off + 3, none⟩ = some (.int .i64 q0) ∧ w'.cell? ⟨(ad.add (i * 7)).block, (ad.add (i * 7)).off + 4, none⟩ = some (.int .i64 q1) ∧ w'.cell? ⟨(ad.add (i * 7)).block, (ad.add (i * 7)).off + 5, none⟩ = some (.int .i64 s0) ∧ w'.cell? ⟨(ad.add (i * 7)).block, (ad.add (i * 7)).off + 6, none⟩ = some (.int .i64 s1) ∧ w'.cell? (bd.add (i * 7)) = some (.bool b) ∧ w'.cell? ⟨(bd.add (i * 7)).block, (bd.add (i * 7)).off + 1, none⟩ = some (.int .i64 p0) ∧ w'.cell? ⟨(bd.add (i * 7)).block, (bd.add (i * 7)).off + 2, none⟩ = some (.int .i64 p1) ∧ w'.cell? ⟨(bd.add (i * 7)).block, (bd.add (i * 7)).off + 3, none⟩ = some (.int .i64 s0) ∧ w'.cell? ⟨(bd.add (i * 7)).block, (bd.add (i * 7)).off + 4, none⟩ = some (.int .i64 s1) ∧ w'.cell? ⟨(bd.add (i * 7)).block, (bd.add (i * 7)).off + 5, none⟩ = some (.int .i64 q0) ∧ w'.cell? ⟨(bd.add (i * 7)).block, (bd.add (i * 7)).off + 6, none⟩ = some (.int .i64 q1))
    ((refine (fun (hb : Below wr.heap.size wr _) => ⟨(hb.cell (World.block_lt_of_cell? wr _ r3)).trans r3, (hb.cell (World.block_lt_of_cell? wr _ u3)).trans u3, (hb.cell (World.block_lt_of_cell? wr _ hx0)).trans hx0, (hb.cell (World.block_lt_of_cell? wr _ hx1)).trans hx1, (hb.cell (World.block_lt_of_cell? wr _ hx2)).trans hx2, (hb.cell (World.block_lt_of_cell? wr _ hx3)).trans hx3, (hb.cell (World.block_lt_of_cell? wr _ hx4)).trans hx4, (hb.cell (World.block_lt_of_cell? wr _ hx5)).trans hx5, (hb.cell (World.block_lt_of_cell? wr _ hx6)).trans hx6, (hb.cell (World.block_lt_of_cell? wr _ hy0)).trans hy0, (hb.cell (World.block_lt_of_cell? wr _ hy1)).trans hy1, (hb.cell (World.block_lt_of_cell? wr _ hy2)).trans hy2, (hb.cell (World.block_lt_of_cell? wr _ hy3)).trans hy3, (hb.cell (World.block_lt_of_cell? wr _ hy4)).trans hy4, (hb.cell (World.block_lt_of_cell? wr _ hy5)).trans hy5, (hb.cell (World.block_lt_of_cell? wr _ hy6)).trans hy6⟩) ?_; exact HQ.out))
    (first
     | ((refine Go.Proofs.YtfiamddinkokbaaW.PrintLast.goes_ Try.func70 (by kernel_rfl) rfl #[.agg #[.bool b, .int .i64 p0, .int .i64 p1, .int .i64 q0, .int .i64 q1, .int .i64 s0, .int .i64 s1]] (by rfl) rfl rfl (by (try simp only [List.map_toArray, List.map_cons, List.map_nil]); rfl) ?_; refine (chunk_Chunk_Turned.calls b p0 p1 q0 q1 s0 s1 b p0 p1 s0 s1 q0 q1 _ rfl).mono ?_; rintro e wt ⟨rfl, hb⟩; have hq := below_step HQ.out hb; clear HQ hb; have HQ := Aside0.mk hq; clear hq; refine ⟨_, rfl, ?_⟩)))
  all_goals have HB9 := Aside0.mk (below_step HW.out HQ.out)
  all_goals go_wp2
  all_goals go_roundg (m - (i + 1))
  all_goals first
   | omega
   | exact ⟨i + 1, by omega, Nat.le_refl _, by go_num, HB9⟩
theorem mergeTurns_walk (a0 a1 a2 : ByteArray) (st wd fv : Int) (g0 g1 g2 : ByteArray) (s0 : g0.size ≤ 140737488351232) (s1 : g1.size ≤ 140737488351232) (s2 : g2.size ≤ 140737488351232) (w : World) :
  Calls Try.prog 17 #[.agg #[.string a0, .string a1, .string a2], .agg #[.int .i64 st, .int .i64 wd, .int .i64 fv, .string g0, .string g1, .string g2]] w fun e w' => e = .returned (.bool true) ∧ Below w.heap.size w w' := by
 by_cases hf : g0.size + g1.size + g2.size ≤ 500
 ·exact turns_yes s0 s1 s2 hf
 ·exact turns_no s0 s1 s2 hf
end Go.Proofs.Ytfiamddinkokbaa.F
end
