/- Texts joined into one file (wip/tools/pack.py): PureDoc2, ParseLaw -/
import Derived.Test.YtfiamddinkokbaaPB27
import Derived.Test.YtfiamddinkokbaaPB25
set_option linter.unusedVariables false
set_option linter.unusedSimpArgs false
section
namespace Go.Proofs.Ytfiamddinkokbaa.F
open Go.RowKit Go.Proofs.YtfiamddinkokbaaW.PrintWords Go.Proofs.YtfiamddinkokbaaW.PrintLast Go.Proofs.YtfiamddinkokbaaW.PrintMore
def narrowerP (w : Int) (x : S109) : Bool := decide (textRun x.f4 < w) && (decide (textRun x.f5 < w) && (decide (textRun x.f6 < w) && decide (textRun x.f7 < w)))
def fitsP (l : List S109) (w : Int) : Bool := decide (1 ≤ w) && l.all (narrowerP w)
theorem ref_fits_in (l : List S109) (w : Int) (hn : l.length ≤ 4000000000) (hs : ∀ x ∈ l, sizesP x ≤ 1000000000) : ∀ (rest done : List S109) (i : Int), l = done ++ rest → i = done.length →
  Ev (fun k => tripartiteref07_Fits.l0 k l w i) (rest.all (narrowerP w))
 | [], done, i, hl, ei => by
  refine Ev.succ ?_
  simp only [tripartiteref07_Fits.l0]
  exact Ev.neg (by rw [hl]; simp; omega) (Ev.val rfl)
 | x :: rest, done, i, hl, ei => by
  have hsz : l.length = done.length + (rest.length + 1) := by rw [hl]; simp
  have hw : wrap64 (i + 1) = i + 1 := wrap_in (by omega) (by omega)
  have hrd : rd_T109 l i = x := rd109_at l i done rest x hl ei
  have hx := sizes_le (hs x (by rw [hl]; simp))
  have next := ref_fits_in l w hn hs rest (done ++ [x]) (i + 1) (by rw [hl]; simp) (by simp; omega)
  refine Ev.succ ?_
  simp only [tripartiteref07_Fits.l0, hrd, hw]
  rw [List.all_cons]
  unfold narrowerP
  refine Ev.pos (by omega) (Ev.pos (by omega) (Ev.bind (ev_ref07_run x.f4 (by omega)) ?_))
  by_cases h1 : textRun x.f4 < w
  ·refine Ev.neg (by omega) (Ev.bind (ev_ref07_run x.f5 (by omega)) ?_)
   rw [decide_eq_true h1]
   by_cases h2 : textRun x.f5 < w
   ·refine Ev.neg (by omega) (Ev.bind (ev_ref07_run x.f6 (by omega)) ?_)
    rw [decide_eq_true h2]
    by_cases h3 : textRun x.f6 < w
    ·refine Ev.neg (by omega) (Ev.bind (ev_ref07_run x.f7 (by omega)) ?_)
     rw [decide_eq_true h3]
     by_cases h4 : textRun x.f7 < w
     ·rw [decide_eq_true h4]; exact Ev.neg (by omega) (next.cast (by simp; rfl))
     ·rw [decide_eq_false h4]; exact Ev.pos (by omega) (Ev.val rfl)
    ·rw [decide_eq_false h3]; exact Ev.pos (by omega) (Ev.val rfl)
   ·rw [decide_eq_false h2]; exact Ev.pos (by omega) (Ev.val rfl)
  ·rw [decide_eq_false h1]; exact Ev.pos (by omega) (Ev.val rfl)
theorem ev_ref_fits (l : List S109) (w : Int) (hn : l.length ≤ 4000000000) (hs : ∀ x ∈ l, sizesP x ≤ 1000000000) : Ev (fun k => tripartiteref07_Fits.f k l w) (fitsP l w) := by
 unfold tripartiteref07_Fits.f fitsP
 by_cases hw : 1 ≤ w
 ·rw [decide_eq_true hw, Bool.true_and]
  exact Ev.neg (by omega) (ref_fits_in l w hn hs l [] 0 rfl rfl)
 ·rw [decide_eq_false hw, Bool.false_and]
  exact Ev.pos (by omega) (Ev.val rfl)
def printP (l : List S109) (w : Int) : ByteArray × Int :=
 if 1 ≤ w ∧ w ≤ 1073741824 then (if rightP false l = true then (if fitsP l w = true then (toB (printL w (l.map to106)), 0) else (⟨#[]⟩, 4)) else (⟨#[]⟩, 11)) else (⟨#[]⟩, 4)
theorem printP_in {l : List S109} {w : Int} (h1 : 1 ≤ w) (h2 : w ≤ 1073741824) : printP l w = (if rightP false l = true then (if fitsP l w = true then (toB (printL w (l.map to106)), 0) else (⟨#[]⟩, 4)) else (⟨#[]⟩, 11)) := if_pos ⟨h1, h2⟩
theorem printP_out {l : List S109} {w : Int} (h : ¬ (1 ≤ w ∧ w ≤ 1073741824)) : printP l w = (⟨#[]⟩, 4) := if_neg h
theorem okPart_to (x : S109) (h : sizesP x ≤ 1000000000) : okPart (to106 x) = true := by
 have hx := sizes_le h
 unfold okPart
 have e1 : (to106 x).f3 = x.f5 := rfl
 have e2 : (to106 x).f4 = x.f6 := rfl
 have e3 : (to106 x).f5 = x.f7 := rfl
 rw [e1, e2, e3, sufx x.f5 (by omega), sufx x.f6 (by omega), sufx x.f7 (by omega)]
 simp only [Bool.and_eq_true, decide_eq_true_eq]
 exact ⟨by show x.f0.size ≤ _; omega, by show x.f1.size ≤ _; omega, by show x.f2.size ≤ _; omega, by show x.f4.size ≤ _; omega, by omega, by omega, by omega, rfl, rfl, rfl⟩
theorem sufQ_eq (s : ByteArray) (h : s.size ≤ 4000000000) : sufQ s = endsL s.data.toList := by unfold sufQ; rw [sufx s h]; rfl
theorem ref_side (s : ByteArray) (h : s.size ≤ 4000000000) : tripartiteref08_side.f s = some (toB (sideL s (endsL s.data.toList)), lacksB s (endsL s.data.toList)) := by
 unfold tripartiteref08_side.f sideL lacksB
 by_cases he : s.toList = ([] : List UInt8)
 ·rw [if_pos he, he]; simp [toB_data]
 ·have he2 : s.toList.isEmpty = false := by cases hx : s.toList with | nil => exact absurd hx he | cons a t => rfl
  rw [if_neg he, he2, ev_ends s h]
  cases hq : endsL s.data.toList with
  | true => simp [toB_data]
  | false =>
   simp only [Option.bind_some, Bool.false_eq_true, if_false]
   rw [if_pos (by omega), show (⟨#[10]⟩ : ByteArray) = toB [10] from rfl]
   have : s ++ toB [10] = toB (s.data.toList ++ [10]) := by rw [← app_toB, toB_data]
   rw [this]; rfl
theorem lineL_eq (c : UInt8) (fl : Bool) (lb : ByteArray) (w : Int) : lineL (c.toNat : Int) fl lb w = markL c fl lb.data.toList w.toNat := by
 unfold lineL; rw [lineB_markL, data_toB, Int.toNat_natCast]; simp
theorem ev_line_k (c : UInt8) (k0 : Int) (hk : k0 = (c.toNat : Int)) (fl : Bool) (lb : ByteArray) (w : Int) (w0 : 0 ≤ w) (w1 : w ≤ 1073741824) (hl : lb.size ≤ 4000000000) : Ev (fun k => tripartiteref08_line.f k k0 fl lb w) (toB (lineL k0 fl lb w)) := by
 subst hk; rw [lineL_eq]; exact ev_ref_line c fl lb w w0 w1 hl
theorem ref_print_in (l : List S109) (w : Int) (hn : l.length ≤ 2000) (hs : ∀ x ∈ l, sizesP x ≤ 1000000000) (w0 : 1 ≤ w) (w1 : w ≤ 1073741824) : ∀ (rest done : List S109) (i : Int), l = done ++ rest → i = done.length →
  Ev (fun k => tripartiteref08_Print.l0 k l w (toB (printL w (done.map to106))) i) (toB (printL w (l.map to106)), 0)
 | [], done, i, hl, ei => by
  refine Ev.succ ?_
  simp only [tripartiteref08_Print.l0]
  exact Ev.neg (by rw [hl]; simp; omega) (Ev.val (by rw [hl, List.append_nil]))
 | x :: rest, done, i, hl, ei => by
  have hsz : l.length = done.length + (rest.length + 1) := by rw [hl]; simp
  have hw : wrap64 (i + 1) = i + 1 := wrap_in (by omega) (by omega)
  have hrd : rd_T109 l i = x := rd109_at l i done rest x hl ei
  have hx := sizes_le (hs x (by rw [hl]; simp))
  obtain ⟨z0, z1, z2, z4, z5, z6, z7, _, _⟩ := hx
  have next := ref_print_in l w hn hs w0 w1 rest (done ++ [x]) (i + 1) (by rw [hl]; simp) (by simp; omega)
  have hstep : printL w ((done ++ [x]).map to106) = printL w (done.map to106) ++ partL w (to106 x) := by simp [printL]
  rw [hstep] at next
  have hcur : (printL w (done.map to106)).length ≤ 90000000000000 := by
   have h1 := printL_length w w1 (done.map to106) (fun y hy => by
    obtain ⟨x', hx', rfl⟩ := List.mem_map.1 hy
    exact okPart_to x' (hs x' (by rw [hl]; simp [hx'])))
   rw [List.length_map] at h1
   have : done.length * 45000000000 ≤ 90000000000000 := by omega
   omega
  generalize printL w (done.map to106) = cur at next hcur ⊢
  have hc : (toB cur).size ≤ 90000000000000 := by rw [size_toB]; exact hcur
  refine Ev.succ ?_
  simp only [tripartiteref08_Print.l0, hrd, hw]
  refine Ev.pos (by omega) (Ev.pos (by omega) (Ev.pos (by omega) ?_))
  have h4 : x.f4 = toB x.f4.data.toList := (toB_data _).symm
  have g4 : (to106 x).f2.data.toList = x.f4.data.toList := rfl
  cases h3 : x.f3 with
  | false =>
   refine Ev.neg (by simp) ?_
   have hp : partL w (to106 x) = x.f4.data.toList := by
    unfold partL
    rw [show (to106 x).f1 = x.f3 from rfl, h3, g4]; simp
   rw [hp] at next
   rw [h4, app_toB]; exact next
  | true =>
   have q5 := sufQ_eq x.f5 (by omega)
   have q6 := sufQ_eq x.f6 (by omega)
   have q7 := sufQ_eq x.f7 (by omega)
   have hp : partL w (to106 x) = x.f4.data.toList ++ (lineL 60 false x.f0 w ++ sideL x.f5 (endsL x.f5.data.toList) ++ (if x.f8 = true then lineL 124 (lacksB x.f5 (endsL x.f5.data.toList)) x.f1 w ++ sideL x.f6 (endsL x.f6.data.toList) else []) ++
     lineL 61 (if x.f8 = true then lacksB x.f6 (endsL x.f6.data.toList) else lacksB x.f5 (endsL x.f5.data.toList)) ⟨#[]⟩ w ++ sideL x.f7 (endsL x.f7.data.toList) ++ lineL 62 (lacksB x.f7 (endsL x.f7.data.toList)) x.f2 w) := by
    unfold partL
    rw [show (to106 x).f1 = x.f3 from rfl, h3, g4, if_pos rfl]
    unfold hunkL
    rw [show (to106 x).f3 = x.f5 from rfl, show (to106 x).f4 = x.f6 from rfl, show (to106 x).f5 = x.f7 from rfl, q5, q6, q7]; rfl
   rw [hp] at next
   have zE : (⟨#[]⟩ : ByteArray).size ≤ 4000000000 := by decide
   have b5 := sideL_length x.f5 (endsL x.f5.data.toList)
   have b6 := sideL_length x.f6 (endsL x.f6.data.toList)
   have b7 := sideL_length x.f7 (endsL x.f7.data.toList)
   have c0 := lineL_length 60 false x.f0 w w1
   have c1 := lineL_length 124 (lacksB x.f5 (endsL x.f5.data.toList)) x.f1 w w1
   have c2 := fun fl => lineL_length 61 fl ⟨#[]⟩ w w1
   have c3 := lineL_length 62 (lacksB x.f7 (endsL x.f7.data.toList)) x.f2 w w1
   have cE : (⟨#[]⟩ : ByteArray).size = 0 := rfl
   refine Ev.pos rfl (Ev.bind (Ev.const (ref_side x.f5 (by omega))) (Ev.bind (Ev.const (ref_side x.f6 (by omega))) (Ev.bind (Ev.const (ref_side x.f7 (by omega))) (Ev.bind (ev_line_k 60 60 rfl false x.f0 w (by omega) w1 (by omega)) ?_))))
   simp only []
   generalize lineL 60 false x.f0 w = L0 at c0 next ⊢
   generalize sideL x.f5 (endsL x.f5.data.toList) = S5 at b5 next ⊢
   have eS : ∀ l : List UInt8, (toB l).size = l.length := size_toB
   refine Ev.pos (by simp only [ByteArray.size_append, eS] at hc ⊢; omega) (Ev.pos (by simp only [ByteArray.size_append, eS] at hc ⊢; omega) ?_)
   cases h8 : x.f8 with
   | true =>
    refine Ev.pos rfl (Ev.bind (ev_line_k 124 124 rfl _ x.f1 w (by omega) w1 (by omega)) ?_)
    simp only [h8, if_true] at next
    generalize lineL 124 (lacksB x.f5 (endsL x.f5.data.toList)) x.f1 w = L1 at c1 next ⊢
    generalize sideL x.f6 (endsL x.f6.data.toList) = S6 at b6 next ⊢
    refine Ev.pos (by simp only [ByteArray.size_append, eS] at hc ⊢; omega) (Ev.pos (by simp only [ByteArray.size_append, eS] at hc ⊢; omega) (Ev.bind (ev_line_k 61 61 rfl _ ⟨#[]⟩ w (by omega) w1 zE) ?_))
    have c2' := c2 (lacksB x.f6 (endsL x.f6.data.toList))
    generalize lineL 61 (lacksB x.f6 (endsL x.f6.data.toList)) ⟨#[]⟩ w = L2 at c2' next ⊢
    generalize hS7 : sideL x.f7 (endsL x.f7.data.toList) = S7 at b7 next ⊢
    refine Ev.pos (by simp only [ByteArray.size_append, eS] at hc ⊢; omega) (Ev.pos (by simp only [ByteArray.size_append, eS] at hc ⊢; omega) (Ev.bind (ev_line_k 62 62 rfl _ x.f2 w (by omega) w1 (by omega)) ?_))
    generalize lineL 62 (lacksB x.f7 (endsL x.f7.data.toList)) x.f2 w = L3 at c3 next ⊢
    refine Ev.pos (by simp only [ByteArray.size_append, eS] at hc ⊢; omega) ?_
    have e : toB cur ++ x.f4 ++ toB L0 ++ toB S5 ++ toB L1 ++ toB S6 ++ toB L2 ++ toB S7 ++ toB L3 = toB (cur ++ (x.f4.data.toList ++ (L0 ++ S5 ++ (L1 ++ S6) ++ L2 ++ S7 ++ L3))) := by
     rw [h4]; simp only [app_toB, data_toB, List.append_assoc]
    rw [e]; exact next
   | false =>
    refine Ev.neg (by simp) (Ev.bind (ev_line_k 61 61 rfl _ ⟨#[]⟩ w (by omega) w1 zE) ?_)
    simp only [h8, Bool.false_eq_true, if_false] at next
    have c2' := c2 (lacksB x.f5 (endsL x.f5.data.toList))
    generalize lineL 61 (lacksB x.f5 (endsL x.f5.data.toList)) ⟨#[]⟩ w = L2 at c2' next ⊢
    generalize hS7 : sideL x.f7 (endsL x.f7.data.toList) = S7 at b7 next ⊢
    refine Ev.pos (by simp only [ByteArray.size_append, eS] at hc ⊢; omega) (Ev.pos (by simp only [ByteArray.size_append, eS] at hc ⊢; omega) (Ev.bind (ev_line_k 62 62 rfl _ x.f2 w (by omega) w1 (by omega)) ?_))
    generalize lineL 62 (lacksB x.f7 (endsL x.f7.data.toList)) x.f2 w = L3 at c3 next ⊢
    refine Ev.pos (by simp only [ByteArray.size_append, eS] at hc ⊢; omega) ?_
    have e : toB cur ++ x.f4 ++ toB L0 ++ toB S5 ++ toB L2 ++ toB S7 ++ toB L3 = toB (cur ++ (x.f4.data.toList ++ (L0 ++ S5 ++ [] ++ L2 ++ S7 ++ L3))) := by
     rw [h4]; simp only [app_toB, data_toB, List.append_assoc, List.append_nil, List.nil_append]
    rw [e]; exact next
theorem ev_ref_print (l : List S109) (w : Int) (hn : l.length ≤ 2000) (hs : ∀ x ∈ l, sizesP x ≤ 1000000000) : Ev (fun k => tripartiteref08_Print.f k l w) (printP l w) := by
 unfold tripartiteref08_Print.f tripartiteref08_wide.f
 by_cases h1 : w ≥ 1
 ·rw [if_pos h1]
  by_cases h2 : w ≤ 1073741824
  ·rw [decide_eq_true h2, printP_in h1 h2]
   refine Ev.bind (Ev.const rfl) (Ev.pos rfl (Ev.bind (ev_ref_right l (by omega) hs) ?_))
   by_cases h3 : rightP false l = true
   ·refine Ev.cast (Ev.pos h3 (Ev.bind (ev_ref_fits l w (by omega) hs) ?_)) (if_pos h3).symm
    by_cases h4 : fitsP l w = true
    ·exact Ev.cast (Ev.pos h4 (ref_print_in l w hn hs h1 h2 l [] 0 rfl rfl)) (if_pos h4).symm
    ·exact Ev.cast (Ev.neg h4 (Ev.val rfl)) (if_neg h4).symm
   ·exact Ev.cast (Ev.neg h3 (Ev.val rfl)) (if_neg h3).symm
  ·rw [decide_eq_false h2, printP_out (fun h => h2 h.2)]
   exact Ev.bind (Ev.const rfl) (Ev.neg (by simp) (Ev.val rfl))
 ·rw [if_neg h1, printP_out (fun h => h1 h.1)]
  exact Ev.bind (Ev.const rfl) (Ev.neg (by simp) (Ev.val rfl))
structure PSt where
 out : List S109
 now : S109
 wh : Int
 buf : List UInt8
def toP (k wh : Int) : Int := if k = 60 ∧ wh = 0 then 1 else if k = 124 ∧ wh = 1 then 2 else if k = 61 ∧ (wh = 1 ∨ wh = 2) then 3 else if k = 62 ∧ wh = 3 then 0 else -1
def lacksP (b : List UInt8) : Bool := !(trimL b).isEmpty && !endsL (trimL b)
def sideP (fl : Bool) (b : List UInt8) : ByteArray := toB (if fl = true then trimL b else b)
def textP (s : ByteArray) : S109 := ⟨⟨#[]⟩, ⟨#[]⟩, ⟨#[]⟩, false, s, ⟨#[]⟩, ⟨#[]⟩, ⟨#[]⟩, false⟩
def openP (lb : ByteArray) : S109 := ⟨lb, ⟨#[]⟩, ⟨#[]⟩, true, ⟨#[]⟩, ⟨#[]⟩, ⟨#[]⟩, ⟨#[]⟩, false⟩
def leftP (x : S109) (s : ByteArray) : S109 := ⟨x.f0, x.f1, x.f2, x.f3, x.f4, s, x.f6, x.f7, x.f8⟩
def baseP (x : S109) (s : ByteArray) : S109 := ⟨x.f0, x.f1, x.f2, x.f3, x.f4, x.f5, s, x.f7, x.f8⟩
def closeP (x : S109) (s lb : ByteArray) : S109 := ⟨x.f0, x.f1, lb, x.f3, x.f4, x.f5, x.f6, s, x.f8⟩
def hasP (x : S109) (lb : ByteArray) : S109 := ⟨x.f0, lb, x.f2, x.f3, x.f4, x.f5, x.f6, x.f7, true⟩
def putP (st : PSt) (s lb : ByteArray) : List S109 × S109 :=
 if st.wh = 0 then (st.out ++ [textP s], openP lb) else if st.wh = 1 then (st.out, leftP st.now s) else if st.wh = 2 then (st.out, baseP st.now s) else if st.wh = 3 then (st.out ++ [closeP st.now s lb], closeP st.now s lb) else (st.out, st.now)
def markP (st : PSt) (k : Int) (fl : Bool) (lb : ByteArray) : PSt × Int :=
 if toP k st.wh = -1 then (st, if k = 60 then 7 else 8)
 else if fl = true ∧ lacksP st.buf = false then (st, 9)
 else (⟨(putP st (sideP fl st.buf) lb).1, if toP k st.wh = 2 then hasP (putP st (sideP fl st.buf) lb).2 lb else (putP st (sideP fl st.buf) lb).2, toP k st.wh, []⟩, 0)
def readP (w : Int) : List ByteArray → Int → PSt → PSt × Int × Int
 | [], _, st => (st, 0, 0)
 | x :: t, i, st =>
  if (readA x w).2.2.2.1 = true then
   (if (markP st (readA x w).1 (readA x w).2.1 (readA x w).2.2.1).2 = 0 then readP w t (i + 1) (markP st (readA x w).1 (readA x w).2.1 (readA x w).2.2.1).1
    else (st, (markP st (readA x w).1 (readA x w).2.1 (readA x w).2.2.1).2, i + 1))
  else if (readA x w).2.2.2.2 = 0 then readP w t (i + 1) ⟨st.out, st.now, st.wh, st.buf ++ x.data.toList⟩ else (st, (readA x w).2.2.2.2, i + 1)
def newP : PSt := ⟨[], textP ⟨#[]⟩, 0, []⟩
def lastP (n : Int) (q : PSt × Int × Int) : List S109 × Int × Int :=
 if q.2.1 = 0 then (if q.1.wh = 0 then (ofP (q.1.out ++ [textP (toB q.1.buf)]), 0, 0) else ([], 10, n + 1)) else ([], q.2.1, q.2.2)
def parseP (s : ByteArray) (w : Int) : List S109 × Int × Int :=
 if 1 ≤ w ∧ w ≤ 1073741824 then lastP (splitB s).length (readP w (splitB s) 0 newP) else ([], 4, 0)
theorem split_app : ∀ (n : Nat) (a b : List UInt8), a.length ≤ n → (endsL a = true ∨ a = []) → splitL (a ++ b) = splitL a ++ splitL b
 | 0, a, b, hn, h => by
  obtain rfl := List.length_eq_zero_iff.1 (Nat.le_zero.1 hn)
  rfl
 | n + 1, a, b, hn, h => by
  rcases nl_cases a with h1 | ⟨q, r, hq, rfl⟩
  ·rcases h with h | rfl
   ·rw [endsL_no a h1] at h; cases h
   ·rfl
  ·rw [List.append_assoc, List.cons_append, splitL_line q (r ++ b) hq, splitL_line q r hq, List.cons_append]
   rw [split_app n r b (by rw [List.length_append, List.length_cons] at hn; omega) ?_]
   rcases List.eq_nil_or_concat r with rfl | ⟨u, z, rfl⟩
   ·exact .inr rfl
   ·left
    rcases h with h | h
    ·unfold endsL at h ⊢
     rw [List.concat_eq_append] at h ⊢
     rw [← List.cons_append, ← List.append_assoc, List.getLast?_concat] at h
     rw [List.getLast?_concat]; exact h
    ·simp at h
theorem split_two (a b : List UInt8) (h : endsL a = true ∨ a = []) : splitL (a ++ b) = splitL a ++ splitL b := split_app a.length a b (Nat.le_refl _) h
theorem ends_app (a b : List UInt8) (h : endsL b = true) : endsL (a ++ b) = true := by
 rcases List.eq_nil_or_concat b with rfl | ⟨u, z, rfl⟩
 ·cases h
 ·unfold endsL at h ⊢
  rw [List.concat_eq_append] at h ⊢
  rw [List.getLast?_concat] at h
  rw [← List.append_assoc, List.getLast?_concat]; exact h
def Runs (n : Nat) (b : List UInt8) : Prop := ∀ x ∈ splitL b, runL x ≤ n
theorem runs_nil (n : Nat) : Runs n [] := fun x hx => by cases hx
theorem runs_app {n : Nat} {a b : List UInt8} (h : endsL a = true ∨ a = []) (ha : Runs n a) (hb : Runs n b) : Runs n (a ++ b) := by
 intro x hx
 rw [split_two a b h] at hx
 rcases List.mem_append.1 hx with hx | hx
 ·exact ha x hx
 ·exact hb x hx
theorem Runs.mono {n m : Nat} {b : List UInt8} (h : Runs n b) (hm : n ≤ m) : Runs m b := fun x hx => Nat.le_trans (h x hx) hm
theorem run_end (p : List UInt8) (h : (10 : UInt8) ∉ p) : runL (p ++ [10]) = runL p := by
 cases p with
 | nil => rfl
 | cons c t =>
  rw [List.cons_append]
  unfold runL
  simp only
  cases hs : isSign c with
  | false => simp
  | true =>
   rw [if_pos rfl, if_pos rfl]
   have hc : (10 == c) = false := by
    cases hq : (10 == c) with
    | false => rfl
    | true => rw [← beq_iff_eq.1 hq] at hs; cases hs
   have e : cutL c (c :: (t ++ [10])) = cutL c (c :: t) ++ [10] := by
    unfold cutL
    rw [← List.cons_append, List.dropWhile_append]
    split
    ·rename_i he
     rw [List.isEmpty_iff.1 he, List.dropWhile_cons_of_neg (by rw [hc]; simp)]; rfl
    ·rfl
   rw [e]; simp only [List.length_append, List.length_cons, List.length_nil]; omega
theorem runs_end : ∀ (n : Nat) (p : List UInt8) (m : Nat), p.length ≤ m → Runs n p → Runs n (p ++ [10])
 | n, p, 0, hm, h => by
  obtain rfl := List.length_eq_zero_iff.1 (Nat.le_zero.1 hm)
  intro x hx
  rw [List.mem_singleton.1 (show x ∈ [[(10 : UInt8)]] from hx)]; exact Nat.zero_le _
 | n, p, m + 1, hm, h => by
  rcases nl_cases p with h1 | ⟨q, r, hq, rfl⟩
  ·intro x hx
   rw [splitL_line p [] h1] at hx
   rcases List.mem_cons.1 hx with rfl | hx
   ·rw [run_end p h1]
    cases p with
    | nil => exact Nat.zero_le _
    | cons c t => exact h (c :: t) (by rw [splitL_last (c :: t) (by simp) h1]; simp)
   ·cases hx
  ·have h2 : Runs n r := fun x hx => h x (by rw [splitL_line q r hq]; exact List.mem_cons_of_mem _ hx)
   have h3 := runs_end n r m (by rw [List.length_append, List.length_cons] at hm; omega) h2
   intro x hx
   rw [List.append_assoc, List.cons_append, splitL_line q (r ++ [10]) hq] at hx
   rcases List.mem_cons.1 hx with rfl | hx
   ·exact h (q ++ [10]) (by rw [splitL_line q r hq]; simp)
   ·exact h3 x hx
theorem long_ge : ∀ (l : List ByteArray) (n : Int), n ≤ longI l n ∧ ∀ x ∈ l, runI x ≤ longI l n
 | [], n => ⟨Int.le_refl _, fun x hx => by cases hx⟩
 | y :: l, n => by
  have h := long_ge l (mx n (runI y))
  have e : longI (y :: l) n = longI l (mx n (runI y)) := rfl
  have h2 := mx_cases n (runI y)
  rw [e]
  refine ⟨by omega, fun x hx => ?_⟩
  rcases List.mem_cons.1 hx with rfl | hx
  ·omega
  ·exact h.2 x hx
theorem runs_text (s : ByteArray) : Runs (textRun s).toNat s.data.toList := by
 intro x hx
 have h := (long_ge (splitB s) 0).2 (toB x) (List.mem_map.2 ⟨x, hx, rfl⟩)
 have h2 := textRun_bound s
 unfold runI at h; rw [data_toB] at h
 show runL x ≤ (textRun s).toNat
 unfold textRun at h2 ⊢
 omega
theorem side_ends (s : ByteArray) : endsL (sideL s (endsL s.data.toList)) = true ∨ sideL s (endsL s.data.toList) = [] := by
 unfold sideL lacksB
 cases hq : endsL s.data.toList with
 | true => left; simp [hq]
 | false =>
  cases he : s.toList.isEmpty with
  | true =>
   right
   rw [bytes_toList] at he
   simp [List.isEmpty_iff.1 he]
  | false => left; simp; exact endsL_at _
theorem side_runs (s : ByteArray) (q : Bool) : Runs (textRun s).toNat (sideL s q) := by
 unfold sideL
 split
 ·exact runs_end _ _ _ (Nat.le_refl _) (runs_text s)
 ·rw [List.append_nil]; exact runs_text s
theorem side_back (s : ByteArray) : sideP (lacksB s (endsL s.data.toList)) (sideL s (endsL s.data.toList)) = s ∧ ¬ (lacksB s (endsL s.data.toList) = true ∧ lacksP (sideL s (endsL s.data.toList)) = false) := by
 unfold sideL
 cases hl : lacksB s (endsL s.data.toList) with
 | false =>
  refine ⟨?_, fun h => by cases h.1⟩
  unfold sideP
  simp [toB_data]
 | true =>
  rw [if_pos rfl]
  unfold lacksB at hl
  rw [bytes_toList] at hl
  simp only [Bool.and_eq_true, Bool.not_eq_true'] at hl
  refine ⟨?_, fun h => ?_⟩
  ·unfold sideP; rw [if_pos rfl, trimL_snoc, toB_data]
  ·have h2 := h.2
   unfold lacksP at h2
   rw [trimL_snoc, hl.1, hl.2] at h2
   cases h2
def rpB (w : Int) (b : List UInt8) (i : Int) (st : PSt) : PSt × Int × Int := readP w ((splitL b).map toB) i st
theorem read_text {w : Int} (h1 : 1 ≤ w) (h2 : w ≤ 1073741824) : ∀ (L : List (List UInt8)) (rest : List ByteArray) (i : Int) (st : PSt), (∀ x ∈ L, (runL x : Int) < w) →
  readP w (L.map toB ++ rest) i st = readP w rest (i + L.length) ⟨st.out, st.now, st.wh, st.buf ++ L.flatten⟩
 | [], rest, i, st, h => by simp
 | x :: L, rest, i, st, h => by
  have hx := h x (List.mem_cons_self ..)
  have e : readA (toB x) w = (0, false, ⟨#[]⟩, false, 0) := by
   unfold readA runI
   rw [if_pos ⟨h1, h2⟩, data_toB, if_pos hx]
  rw [List.map_cons, List.cons_append, readP, e]
  simp only [Bool.false_eq_true, if_false, if_true]
  rw [read_text h1 h2 L rest (i + 1) _ (fun y hy => h y (List.mem_cons_of_mem _ hy)), data_toB]
  simp only [List.flatten_cons, List.append_assoc, List.length_cons]
  congr 1
  omega
theorem rp_text {w : Int} (h1 : 1 ≤ w) (h2 : w ≤ 1073741824) (a b : List UInt8) (i : Int) (out : List S109) (now : S109) (wh : Int) (buf : List UInt8) (ha : Runs (w.toNat - 1) a) (he : endsL a = true ∨ a = []) :
  ∃ i', rpB w (a ++ b) i ⟨out, now, wh, buf⟩ = rpB w b i' ⟨out, now, wh, buf ++ a⟩ := by
 refine ⟨i + (splitL a).length, ?_⟩
 unfold rpB
 rw [split_two a b he, List.map_append, read_text h1 h2 (splitL a) _ i _ (fun x hx => by have := ha x hx; omega), split_flat]
theorem rp_last {w : Int} (h1 : 1 ≤ w) (h2 : w ≤ 1073741824) (a : List UInt8) (i : Int) (st : PSt) (ha : Runs (w.toNat - 1) a) :
  rpB w a i st = (⟨st.out, st.now, st.wh, st.buf ++ a⟩, 0, 0) := by
 unfold rpB
 have := read_text h1 h2 (splitL a) [] i st (fun x hx => by have := ha x hx; omega)
 rw [List.append_nil, split_flat] at this
 rw [this]; rfl
theorem mark_split (c : UInt8) (fl : Bool) (lb : ByteArray) (n : Nat) (b : List UInt8) (hm : mayB (c.toNat : Int) fl lb = true) : splitL (markL c fl lb.data.toList n ++ b) = markL c fl lb.data.toList n :: splitL b := by
 have hs := may_isSign c fl lb hm
 have hl : lineless lb = false := by
  unfold mayB at hm
  simp only [Bool.and_eq_true, Bool.not_eq_true'] at hm
  exact hm.2.1
 rw [lineless_iff] at hl
 have hl2 : (10 : UInt8) ∉ lb.data.toList := of_decide_eq_false hl
 have hc : ¬ (10 : UInt8) = c := fun e => by rw [← e] at hs; cases hs
 have key : ∃ q, (10 : UInt8) ∉ q ∧ markL c fl lb.data.toList n = q ++ [10] := by
  refine ⟨List.replicate n c ++ ((if fl = true then [33] else []) ++ (if lb.data.toList.isEmpty = true then [] else 32 :: lb.data.toList)), ?_, ?_⟩
  ·intro h
   rcases List.mem_append.1 h with h | h
   ·exact hc (List.mem_replicate.1 h).2
   rcases List.mem_append.1 h with h | h
   ·split at h
    ·exact absurd (List.mem_singleton.1 h) (by decide)
    ·cases h
   ·split at h
    ·cases h
    ·rcases List.mem_cons.1 h with h | h
     ·exact absurd h (by decide)
     ·exact hl2 h
  ·unfold markL; simp only [List.append_assoc]
 obtain ⟨q, hq, e⟩ := key
 rw [e, List.append_assoc, List.singleton_append, splitL_line q b hq]
theorem rp_mark {w : Int} (h1 : 1 ≤ w) (h2 : w ≤ 1073741824) (c : UInt8) (fl : Bool) (lb : ByteArray) (b : List UInt8) (i : Int) (st st' : PSt) (hm : mayB (c.toNat : Int) fl lb = true) (he : markP st (c.toNat : Int) fl lb = (st', 0)) :
  rpB w (markL c fl lb.data.toList w.toNat ++ b) i st = rpB w b (i + 1) st' := by
 unfold rpB
 rw [mark_split c fl lb w.toNat b hm, List.map_cons, readP]
 have hm' : mayB (c.toNat : Int) fl (toB lb.data.toList) = true := by rw [toB_data]; exact hm
 rw [read_back c fl lb.data.toList w w h1 hm' h1 h2, if_neg (Int.lt_irrefl _), if_neg (Int.lt_irrefl _)]
 simp only [if_true]
 rw [toB_data, he]; simp only [if_true]
theorem mark_ends (c : UInt8) (fl : Bool) (lb : List UInt8) (n : Nat) : endsL (markL c fl lb n) = true := by
 unfold markL
 exact ends_app _ _ (ends_app _ _ (ends_app _ _ rfl))
theorem mark_runs (c : UInt8) (fl : Bool) (lb : ByteArray) (n : Nat) (hn : 1 ≤ n) (hm : mayB (c.toNat : Int) fl lb = true) : Runs n (markL c fl lb.data.toList n) := by
 intro x hx
 have e := mark_split c fl lb n [] hm
 rw [List.append_nil] at e
 rw [e] at hx
 rcases List.mem_cons.1 hx with rfl | hx
 ·rw [run_mark c (may_isSign c fl lb hm) fl _ n hn]; exact Nat.le_refl _
 ·cases hx
#print axioms mark_runs
end Go.Proofs.Ytfiamddinkokbaa.F
end
