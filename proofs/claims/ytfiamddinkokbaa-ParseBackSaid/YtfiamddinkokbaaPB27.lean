/- Texts joined into one file (wip/tools/pack.py): Fn20, Pure07, Fn78, Fn28, Fn77, Fn27, Fn74, Fn23, PureOf, PureDoc -/
import Derived.Test.YtfiamddinkokbaaPB3
import Derived.Test.YtfiamddinkokbaaPB25
import Derived.Test.YtfiamddinkokbaaPB26
import Derived.Test.YtfiamddinkokbaaPB4
import Derived.Test.YtfiamddinkokbaaPB23
import Derived.Test.YtfiamddinkokbaaPB24
import Derived.Test.YtfiamddinkokbaaPB17
import Derived.Test.YtfiamddinkokbaaPB10
import Derived.Test.YtfiamddinkokbaaPB21
import Derived.Test.YtfiamddinkokbaaPB5
import Derived.Test.YtfiamddinkokbaaPB20
import Derived.Test.YtfiamddinkokbaaPB14
set_option linter.unusedVariables false
set_option linter.unusedSimpArgs false
section
namespace Go.Proofs.Ytfiamddinkokbaa.F
open Go.RowKit Go.Proofs.YtfiamddinkokbaaW.PrintWords Go.Proofs.YtfiamddinkokbaaW.PrintLast Go.Proofs.YtfiamddinkokbaaW.PrintMore
attribute [local go_sem] max2_int min2_int max_two min_two max_three min_three max_four min_four

end Go.Proofs.Ytfiamddinkokbaa.F
end

section
namespace Go.Proofs.Ytfiamddinkokbaa.F
open Go.RowKit Go.Proofs.YtfiamddinkokbaaW.PrintWords Go.Proofs.YtfiamddinkokbaaW.PrintLast Go.Proofs.YtfiamddinkokbaaW.PrintMore
theorem ev_ref07_run (s : ByteArray) (hs : s.size ≤ 4000000000) : Ev (fun k => tripartiteref07_Run.f k s) (textRun s) := by
 unfold tripartiteref07_Run.f
 refine Ev.bind (ref_split s hs) (Ev.bind (ref_longest _ ?_ ?_) (Ev.val rfl))
 ·have := splitB_length s; omega
 ·intro x hx; have := splitB_mem s x hx; omega
end Go.Proofs.Ytfiamddinkokbaa.F
end

section
namespace Go.Proofs.Ytfiamddinkokbaa.F
open Go.RowKit Go.Proofs.YtfiamddinkokbaaW.PrintWords Go.Proofs.YtfiamddinkokbaaW.PrintLast Go.Proofs.YtfiamddinkokbaaW.PrintMore
attribute [local go_sem] max2_int min2_int max_two min_two max_three min_three max_four min_four
attribute [local go_sem high] eqA106

end Go.Proofs.Ytfiamddinkokbaa.F
end

section
namespace Go.Proofs.Ytfiamddinkokbaa.F
open Go.RowKit Go.Proofs.YtfiamddinkokbaaW.PrintWords Go.Proofs.YtfiamddinkokbaaW.PrintLast Go.Proofs.YtfiamddinkokbaaW.PrintMore
attribute [local go_sem] max2_int min2_int max_two min_two max_three min_three max_four min_four

end Go.Proofs.Ytfiamddinkokbaa.F
end

section
namespace Go.Proofs.Ytfiamddinkokbaa.F
open Go.RowKit Go.Proofs.YtfiamddinkokbaaW.PrintWords Go.Proofs.YtfiamddinkokbaaW.PrintLast Go.Proofs.YtfiamddinkokbaaW.PrintMore
attribute [local go_sem] max2_int min2_int max_two min_two max_three min_three max_four min_four
attribute [local go_sem high] eqA109

end Go.Proofs.Ytfiamddinkokbaa.F
end

section
namespace Go.Proofs.Ytfiamddinkokbaa.F
open Go.RowKit Go.Proofs.YtfiamddinkokbaaW.PrintWords Go.Proofs.YtfiamddinkokbaaW.PrintLast Go.Proofs.YtfiamddinkokbaaW.PrintMore
attribute [local go_sem] max2_int min2_int max_two min_two max_three min_three max_four min_four



end Go.Proofs.Ytfiamddinkokbaa.F
end

section
namespace Go.Proofs.Ytfiamddinkokbaa.F
open Go.RowKit Go.Proofs.YtfiamddinkokbaaW.PrintWords Go.Proofs.YtfiamddinkokbaaW.PrintLast Go.Proofs.YtfiamddinkokbaaW.PrintMore
def to106 (x : S109) : S106 := ⟨⟨x.f0, x.f1, x.f2⟩, x.f3, x.f4, x.f5, x.f6, x.f7, x.f8⟩
def to109 (x : S106) : S109 := ⟨x.f0.f0, x.f0.f1, x.f0.f2, x.f1, x.f2, x.f3, x.f4, x.f5, x.f6⟩
theorem map_to109 (l : List S109) : (l.map to106).map to109 = l := by
 rw [List.map_map]; exact List.map_id l
def isTextP (x : S109) : Bool := x.f0.toList.isEmpty && (x.f1.toList.isEmpty && (x.f2.toList.isEmpty && (!x.f3 && (x.f5.toList.isEmpty && (x.f6.toList.isEmpty && (x.f7.toList.isEmpty && (!x.f8)))))))
def isNoneP (x : S109) : Bool := isTextP x && x.f4.toList.isEmpty
def joinP (z p : S109) : S109 := ⟨z.f0, z.f1, z.f2, z.f3, z.f4 ++ p.f4, z.f5, z.f6, z.f7, z.f8⟩
def ofStep (out : List S109) (p : S109) : List S109 :=
 if isNoneP p = true then out
 else match out.getLast? with
  | none => out ++ [p]
  | some z => if isTextP p = true ∧ isTextP z = true then out.dropLast ++ [joinP z p] else out ++ [p]
def ofP (l : List S109) : List S109 := l.foldl ofStep []
theorem ofStep_none (out : List S109) (p : S109) (h : isNoneP p = true) : ofStep out p = out := by unfold ofStep; rw [if_pos h]
theorem ofStep_nil (p : S109) (h : ¬ isNoneP p = true) : ofStep [] p = [p] := by unfold ofStep; rw [if_neg h]; rfl
theorem ofStep_join (u : List S109) (z p : S109) (h : ¬ isNoneP p = true) (hp : isTextP p = true) (hz : isTextP z = true) : ofStep (u ++ [z]) p = u ++ [joinP z p] := by
 unfold ofStep; rw [if_neg h, List.getLast?_concat]; simp [hp, hz]
theorem ofStep_put (u : List S109) (z p : S109) (h : ¬ isNoneP p = true) (hn : ¬ (isTextP p = true ∧ isTextP z = true)) : ofStep (u ++ [z]) p = u ++ [z] ++ [p] := by
 unfold ofStep; rw [if_neg h, List.getLast?_concat]; simp only [if_neg hn]
def textSum (l : List S109) : Nat := (l.map fun x => x.f4.size).sum
def Joined (l : List S109) : Prop := (∀ x ∈ l, ¬ isNoneP x = true) ∧ ∀ u a b v, l = u ++ a :: b :: v → ¬ (isTextP a = true ∧ isTextP b = true)
theorem joined_nil : Joined [] := ⟨fun x hx => (by cases hx), fun u a b v h => (by simp at h)⟩
theorem fold_joined (l acc : List S109) (h : Joined (acc ++ l)) : l.foldl ofStep acc = acc ++ l := by
 induction l generalizing acc with
 | nil => simp
 | cons p l ih =>
  have hn : ¬ isNoneP p = true := h.1 p (by simp)
  have hs : ofStep acc p = acc ++ [p] := by
   rcases List.eq_nil_or_concat acc with rfl | ⟨u, z, rfl⟩
   ·exact ofStep_nil p hn
   ·rw [List.concat_eq_append] at h ⊢
    exact ofStep_put u z p hn (fun hc => h.2 u z p l (by simp) ⟨hc.2, hc.1⟩)
  show l.foldl ofStep (ofStep acc p) = acc ++ p :: l
  rw [hs, ih (acc ++ [p]) (by simpa using h)]; simp
theorem step_bound (M : Nat) (out : List S109) (p : S109) (h : ∀ x ∈ out, x.f4.size ≤ M) : (ofStep out p).length ≤ out.length + 1 ∧ ∀ x ∈ ofStep out p, x.f4.size ≤ M + p.f4.size := by
 by_cases hn : isNoneP p = true
 ·rw [ofStep_none out p hn]; exact ⟨by omega, fun x hx => by have := h x hx; omega⟩
 ·rcases List.eq_nil_or_concat out with rfl | ⟨u0, z, rfl⟩
  ·rw [ofStep_nil p hn]; exact ⟨by simp, fun x hx => by rw [List.mem_singleton.1 hx]; omega⟩
  ·rw [List.concat_eq_append] at h ⊢
   by_cases hb : isTextP p = true ∧ isTextP z = true
   ·rw [ofStep_join u0 z p hn hb.1 hb.2]
    refine ⟨by simp, fun x hx => ?_⟩
    rcases List.mem_append.1 hx with hx | hx
    ·have := h x (List.mem_append_left _ hx); omega
    ·rw [List.mem_singleton.1 hx]
     have := h z (by simp)
     simp only [joinP, ByteArray.size_append]; omega
   ·rw [ofStep_put u0 z p hn hb]
    refine ⟨by simp, fun x hx => ?_⟩
    rcases List.mem_append.1 hx with hx | hx
    ·have := h x hx; omega
    ·rw [List.mem_singleton.1 hx]; omega
theorem rd106_at (l : List S106) (i : Int) (xs ys : List S106) (c : S106) (h : l = xs ++ c :: ys) (hi : i = xs.length) : rd_T106 l i = c := by
 subst h hi; unfold rd_T106; simp [List.getD_eq_getElem?_getD]
theorem rd109_at (l : List S109) (i : Int) (xs ys : List S109) (c : S109) (h : l = xs ++ c :: ys) (hi : i = xs.length) : rd_T109 l i = c := by
 subst h hi; unfold rd_T109; simp [List.getD_eq_getElem?_getD]
theorem rd106_map (l : List S109) (i : Int) (xs ys : List S109) (c : S109) (h : l = xs ++ c :: ys) (hi : i = xs.length) : rd_T106 (l.map to106) i = to106 c :=
 rd106_at _ i (xs.map to106) (ys.map to106) (to106 c) (by rw [h]; simp) (by simpa using hi)
theorem from_in (l : List S106) (hn : l.length ≤ 4000000000) : ∀ (rest done : List S106) (i : Int), l = done ++ rest → i = done.length → Ev (fun k => tripartitelaw07_From.l0 k l (done.map to109) i) (l.map to109)
 | [], done, i, hl, ei => by
  refine Ev.succ ?_
  simp only [tripartitelaw07_From.l0]
  refine Ev.neg (by rw [hl]; simp; omega) (Ev.val (by rw [hl]; simp))
 | x :: rest, done, i, hl, ei => by
  have hsz : l.length = done.length + (rest.length + 1) := by rw [hl]; simp
  have hw : wrap64 (i + 1) = i + 1 := wrap_in (by omega) (by omega)
  refine Ev.succ ?_
  simp only [tripartitelaw07_From.l0, hw, rd106_at l i done rest x hl ei]
  refine Ev.pos (by omega) (Ev.pos (by omega) (Ev.bind (Ev.const rfl) (Ev.pos (by simp; omega) ?_)))
  have := from_in l hn rest (done ++ [x]) (i + 1) (by rw [hl]; simp) (by simp; omega)
  rw [List.map_append] at this
  exact this
theorem ev_from (l : List S106) (hn : l.length ≤ 4000000000) : Ev (fun k => tripartitelaw07_From.f k l) (l.map to109) := from_in l hn l [] 0 rfl rfl
theorem set_last {α : Type} (u : List α) (z z' : α) (i : Int) (hi : i = u.length) : (u ++ [z]).set i.toNat z' = u ++ [z'] := by
 subst hi; rw [Int.toNat_natCast, List.set_append_right _ _ (Nat.le_refl _)]; simp
theorem doc_of_in (l : List S109) (hn : l.length ≤ 4000000000) (ht : textSum l ≤ 4000000000) :
  ∀ (rest done out : List S109) (i : Int) (M : Nat), l = done ++ rest → i = done.length → out.length ≤ done.length → (∀ x ∈ out, x.f4.size ≤ M) → M + textSum rest ≤ 4000000000 →
  Ev (fun k => doc_Of.l0 k (out.map to106) (l.map to106) ((l.map to106).length : Int) i) ((rest.foldl ofStep out).map to106)
 | [], done, out, i, M, hl, ei, ho, hm, hM => by
  refine Ev.succ ?_
  simp only [doc_Of.l0]
  refine Ev.neg (by rw [hl]; simp; omega) (Ev.val rfl)
 | p :: rest, done, out, i, M, hl, ei, ho, hm, hM => by
  have hsz : l.length = done.length + (rest.length + 1) := by rw [hl]; simp
  have hw : wrap64 (i + 1) = i + 1 := wrap_in (by omega) (by omega)
  obtain ⟨hb1, hb2⟩ := step_bound M out p hm
  have hts : textSum (p :: rest) = p.f4.size + textSum rest := by simp [textSum]
  have again := doc_of_in l hn ht rest (done ++ [p]) (ofStep out p) (i + 1) (M + p.f4.size) (by rw [hl]; simp) (by simp; omega) (by simp; omega) hb2 (by omega)
  have hlm : ((l.map to106).length : Int) = l.length := by simp
  refine Ev.succ ?_
  simp only [doc_Of.l0, hw, rd106_map l i done rest p hl ei]
  refine Ev.pos (by rw [hlm]; omega) (Ev.pos (by omega) (Ev.pos (by rw [hlm]; omega) ?_))
  have hcond : (((to106 p).f0.f0.toList.isEmpty && ((to106 p).f0.f1.toList.isEmpty && (to106 p).f0.f2.toList.isEmpty)) && (!(to106 p).f1 && ((to106 p).f2.toList.isEmpty && ((to106 p).f3.toList.isEmpty && ((to106 p).f4.toList.isEmpty && ((to106 p).f5.toList.isEmpty && (!(to106 p).f6))))))) = isNoneP p := by
   unfold isNoneP isTextP to106
   cases p.f0.toList.isEmpty <;> cases p.f1.toList.isEmpty <;> cases p.f2.toList.isEmpty <;> cases p.f3 <;> cases p.f4.toList.isEmpty <;> cases p.f5.toList.isEmpty <;> cases p.f6.toList.isEmpty <;> cases p.f7.toList.isEmpty <;> cases p.f8 <;> rfl
  have htext : ∀ q : S109, doc_Part_isText.f (to106 q).f0.f0 (to106 q).f0.f1 (to106 q).f0.f2 (to106 q).f1 (to106 q).f2 (to106 q).f3 (to106 q).f4 (to106 q).f5 (to106 q).f6 = some (isTextP q) := by
   intro q
   unfold doc_Part_isText.f isTextP to106
   congr 1
   cases q.f0.toList.isEmpty <;> cases q.f1.toList.isEmpty <;> cases q.f2.toList.isEmpty <;> cases q.f3 <;> cases q.f5.toList.isEmpty <;> cases q.f6.toList.isEmpty <;> cases q.f7.toList.isEmpty <;> cases q.f8 <;> rfl
  simp only [hcond]
  by_cases hnone : isNoneP p = true
  ·refine Ev.pos hnone ?_
   rw [List.foldl_cons, ofStep_none out p hnone]
   rw [ofStep_none out p hnone] at again
   exact again
  ·refine Ev.neg hnone (Ev.bind (Ev.const (htext p)) ?_)
   have put : ofStep out p = out ++ [p] → Ev (fun k => if (out.map to106).length < 1099511627776 then doc_Of.l0 k (out.map to106 ++ [(⟨(⟨(to106 p).f0.f0, (to106 p).f0.f1, (to106 p).f0.f2⟩ : S84), (to106 p).f1, (to106 p).f2, (to106 p).f3, (to106 p).f4, (to106 p).f5, (to106 p).f6⟩ : S106)]) (l.map to106) ((l.map to106).length : Int) (i + 1) else none) (((p :: rest).foldl ofStep out).map to106) := by
    intro e
    refine Ev.pos (by simp; omega) ?_
    rw [List.foldl_cons, e]
    rw [e, List.map_append] at again
    exact again
   by_cases hp : isTextP p = true
   ·refine Ev.pos hp ?_
    rcases List.eq_nil_or_concat out with rfl | ⟨u, z, rfl⟩
    ·refine Ev.neg (by simp) (put (ofStep_nil p hnone))
    ·rw [List.concat_eq_append] at *
     have hul : (((u ++ [z]).map to106).length : Int) = u.length + 1 := by simp
     have hwl : wrap64 ((((u ++ [z]).map to106).length : Int) - 1) = u.length := by rw [hul, wrap_in (by simp at ho; omega) (by simp at ho; omega)]; omega
     have hrd : rd_T106 ((u ++ [z]).map to106) (u.length : Int) = to106 z := rd106_map (u ++ [z]) _ u [] z rfl rfl
     simp only [hwl, hrd]
     refine Ev.pos (by rw [hul]; omega) (Ev.pos (by omega) (Ev.pos (by rw [hul]; omega) (Ev.bind (Ev.const (htext z)) ?_)))
     by_cases hz : isTextP z = true
     ·refine Ev.pos hz (Ev.pos ?_ ?_)
      ·have := hm z (by simp)
       show z.f4.size + p.f4.size ≤ 9223372036854775807
       omega
      ·rw [List.foldl_cons]
       rw [ofStep_join u z p hnone hp hz] at again ⊢
       have e : ((u ++ [z]).map to106).set (u.length : Int).toNat (to106 (joinP z p)) = (u ++ [joinP z p]).map to106 := by
        rw [List.map_append, List.map_append, List.map_singleton, List.map_singleton, set_last _ _ _ _ (by simp)]
       rw [← e] at again
       exact again
     ·exact Ev.neg hz (put (ofStep_put u z p hnone (fun hc => hz hc.2)))
   ·refine Ev.neg hp ?_
    rcases List.eq_nil_or_concat out with rfl | ⟨u, z, rfl⟩
    ·exact put (ofStep_nil p hnone)
    ·rw [List.concat_eq_append] at *
     exact put (ofStep_put u z p hnone (fun hc => hp hc.1))
theorem ev_doc_of (l : List S109) (hn : l.length ≤ 4000000000) (ht : textSum l ≤ 4000000000) : Ev (fun k => doc_Of.f k (l.map to106)) ((ofP l).map to106) :=
 doc_of_in l hn ht l [] [] 0 0 rfl rfl (Nat.le_refl _) (fun x hx => (by cases hx)) (by omega)
def eqP (x y : S109) : Bool := x.f0.toList == y.f0.toList && (x.f1.toList == y.f1.toList && (x.f2.toList == y.f2.toList && (x.f3 == y.f3 && (x.f4.toList == y.f4.toList && (x.f5.toList == y.f5.toList && (x.f6.toList == y.f6.toList && (x.f7.toList == y.f7.toList && x.f8 == y.f8)))))))
theorem eqP_refl (x : S109) : eqP x x = true := by simp [eqP]
def sameP : List S109 → List S109 → Bool
 | [], [] => true
 | x :: a, y :: b => eqP x y && sameP a b
 | _, _ => false
theorem sameP_refl : ∀ l : List S109, sameP l l = true
 | [] => rfl
 | x :: l => by simp [sameP, eqP_refl, sameP_refl l]
theorem sameP_length : ∀ a b : List S109, sameP a b = true → a.length = b.length
 | [], [], _ => rfl
 | x :: a, y :: b, h => by simp [sameP] at h; simp [sameP_length a b h.2]
 | [], y :: b, h => by simp [sameP] at h
 | x :: a, [], h => by simp [sameP] at h
theorem ref_same_in (a b : List S109) (hn : a.length ≤ 4000000000) (hab : a.length = b.length) : ∀ (ra rb da db : List S109) (i : Int), a = da ++ ra → b = db ++ rb → da.length = db.length → i = da.length → Ev (fun k => tripartiteref07_Same.l0 k a b i) (sameP ra rb)
 | [], rb, da, db, i, ha, hb, hd, ei => by
  have : rb = [] := by
   rw [ha, hb] at hab; simp at hab; exact List.length_eq_zero_iff.1 (by omega)
  subst this
  refine Ev.succ ?_
  simp only [tripartiteref07_Same.l0]
  refine Ev.neg (by rw [ha]; simp; omega) (Ev.val rfl)
 | x :: ra, [], da, db, i, ha, hb, hd, ei => by
  rw [ha, hb] at hab; simp at hab; omega
 | x :: ra, y :: rb, da, db, i, ha, hb, hd, ei => by
  have hsz : a.length = da.length + (ra.length + 1) := by rw [ha]; simp
  have hw : wrap64 (i + 1) = i + 1 := wrap_in (by omega) (by omega)
  refine Ev.succ ?_
  simp only [tripartiteref07_Same.l0, hw, rd109_at a i da ra x ha ei, rd109_at b i db rb y hb (by omega)]
  refine Ev.pos (by omega) (Ev.pos (by omega) (Ev.pos (by omega) ?_))
  by_cases he : eqP x y = true
  ·refine Ev.neg ?_ ?_
   ·unfold eqP at he; simp only [Bool.and_eq_true] at he
    obtain ⟨h0, h1, h2, h3, h4, h5, h6, h7, h8⟩ := he
    simp [h0, h1, h2, h3, h4, h5, h6, h7, h8]
   ·rw [show sameP (x :: ra) (y :: rb) = sameP ra rb from by simp [sameP, he]]
    exact ref_same_in a b hn hab ra rb (da ++ [x]) (db ++ [y]) (i + 1) (by rw [ha]; simp) (by rw [hb]; simp) (by simp [hd]) (by simp; omega)
  ·refine Ev.pos ?_ (Ev.val ?_)
   ·rw [Bool.not_eq_true] at he
    have h2 : (!eqP x y) = true := by rw [he]; rfl
    unfold eqP at h2
    simpa only [Bool.not_and] using h2
   ·rw [Bool.not_eq_true] at he; simp [sameP, he]
theorem ev_ref_same (a b : List S109) (hn : a.length ≤ 4000000000) (hm : b.length ≤ 4000000000) : Ev (fun k => tripartiteref07_Same.f k a b) (sameP a b) := by
 unfold tripartiteref07_Same.f
 by_cases h : (a.length : Int) = b.length
 ·refine Ev.pos h (ref_same_in a b hn (by omega) a b [] [] 0 rfl rfl rfl rfl)
 ·refine Ev.neg h (Ev.val ?_)
  cases hs : sameP a b with
  | false => rfl
  | true => exact absurd (by rw [sameP_length a b hs]) h
def sizesP (x : S109) : Nat := x.f4.size + x.f5.size + x.f6.size + x.f7.size + x.f0.size + x.f1.size + x.f2.size
def sumP (l : List S109) : Nat := (l.map sizesP).sum
def fewP (l : List S109) : Bool := decide (l.length ≤ 60) && decide (sumP l ≤ 3000)
theorem few_many (l : List S109) (hn : l.length ≤ 4000000000000) (h60 : 60 < l.length) : ∀ (rest done : List S109) (x i : Int), l = done ++ rest → i = done.length → Ev (fun k => tripartitelaw07_Few.l0 k l x i) false
 | [], done, x, i, hl, ei => by
  refine Ev.succ ?_
  simp only [tripartitelaw07_Few.l0]
  refine Ev.neg (by rw [hl]; simp; omega) (Ev.neg (by omega) (Ev.val rfl))
 | p :: rest, done, x, i, hl, ei => by
  have hsz : l.length = done.length + (rest.length + 1) := by rw [hl]; simp
  have hw : wrap64 (i + 1) = i + 1 := wrap_in (by omega) (by omega)
  refine Ev.succ ?_
  simp only [tripartitelaw07_Few.l0, hw]
  refine Ev.pos (by omega) (Ev.pos (by omega) ?_)
  exact few_many l hn h60 rest (done ++ [p]) _ (i + 1) (by rw [hl]; simp) (by simp; omega)
theorem few_few (l : List S109) (h60 : l.length ≤ 60) (hs : ∀ x ∈ l, sizesP x ≤ 985162418458624) : ∀ (rest done : List S109) (x i : Int), l = done ++ rest → i = done.length → x = sumP done → Ev (fun k => tripartitelaw07_Few.l0 k l x i) (decide (sumP l ≤ 3000))
 | [], done, x, i, hl, ei, ex => by
  refine Ev.succ ?_
  simp only [tripartitelaw07_Few.l0]
  refine Ev.neg (by rw [hl]; simp; omega) (Ev.pos (by omega) (Ev.val ?_))
  rw [hl, List.append_nil, ex]
  exact decide_eq_decide.2 (by omega)
 | p :: rest, done, x, i, hl, ei, ex => by
  have hsz : l.length = done.length + (rest.length + 1) := by rw [hl]; simp
  have hw : wrap64 (i + 1) = i + 1 := wrap_in (by omega) (by omega)
  have hsum : ∀ d : List S109, (∀ y ∈ d, y ∈ l) → sumP d ≤ d.length * 985162418458624 := by
   intro d
   induction d with
   | nil => intro _; simp [sumP]
   | cons y d ih =>
    intro hd
    have h1 := ih (fun z hz => hd z (by simp [hz]))
    have h2 := hs y (hd y (by simp))
    simp only [sumP, List.map_cons, List.sum_cons, List.length_cons] at h1 ⊢
    omega
  have hd := hsum done (fun y hy => by rw [hl]; simp [hy])
  have hp := hs p (by rw [hl]; simp)
  have hdl : done.length * 985162418458624 ≤ 60 * 985162418458624 := Nat.mul_le_mul_right _ (by omega)
  have hpe : sizesP p = p.f4.size + p.f5.size + p.f6.size + p.f7.size + p.f0.size + p.f1.size + p.f2.size := rfl
  refine Ev.succ ?_
  simp only [tripartitelaw07_Few.l0, hw, rd109_at l i done rest p hl ei]
  refine Ev.pos (by omega) (Ev.pos (by omega) ?_)
  refine few_few l h60 hs rest (done ++ [p]) _ (i + 1) (by rw [hl]; simp) (by simp; omega) ?_
  have e : sumP (done ++ [p]) = sumP done + sizesP p := by simp [sumP]
  rw [e]
  clear hsum hs hdl hw
  subst ex
  generalize sumP done = q at hd ⊢
  have hq : q ≤ 59109745107517440 := Nat.le_trans hd (Nat.le_trans (Nat.mul_le_mul_right _ (show done.length ≤ 60 by omega)) (by decide))
  clear hd
  rw [wrap_in (n := (q : Int) + p.f4.size) (by omega) (by omega)]
  rw [wrap_in (n := (q : Int) + p.f4.size + p.f5.size) (by omega) (by omega)]
  rw [wrap_in (n := (q : Int) + p.f4.size + p.f5.size + p.f6.size) (by omega) (by omega)]
  rw [wrap_in (n := (q : Int) + p.f4.size + p.f5.size + p.f6.size + p.f7.size) (by omega) (by omega)]
  rw [wrap_in (n := (q : Int) + p.f4.size + p.f5.size + p.f6.size + p.f7.size + p.f0.size) (by omega) (by omega)]
  rw [wrap_in (n := (q : Int) + p.f4.size + p.f5.size + p.f6.size + p.f7.size + p.f0.size + p.f1.size) (by omega) (by omega)]
  rw [wrap_in (n := (q : Int) + p.f4.size + p.f5.size + p.f6.size + p.f7.size + p.f0.size + p.f1.size + p.f2.size) (by omega) (by omega)]
  omega
theorem ev_few (l : List S109) (hn : l.length ≤ 4000000000000) (hs : ∀ x ∈ l, sizesP x ≤ 985162418458624) : Ev (fun k => tripartitelaw07_Few.f k l) (fewP l) := by
 unfold tripartitelaw07_Few.f fewP
 by_cases h : l.length ≤ 60
 ·rw [decide_eq_true h, Bool.true_and]; exact few_few l h hs l [] 0 0 rfl rfl rfl
 ·rw [decide_eq_false h, Bool.false_and]; exact few_many l hn (by omega) l [] 0 0 rfl rfl
theorem few_text {l : List S109} (h : fewP l = true) : l.length ≤ 60 ∧ textSum l ≤ 3000 ∧ ∀ x ∈ l, sizesP x ≤ 3000 := by
 unfold fewP at h
 simp only [Bool.and_eq_true, decide_eq_true_eq] at h
 have key : ∀ d : List S109, textSum d ≤ sumP d ∧ ∀ x ∈ d, sizesP x ≤ sumP d := by
  intro d
  induction d with
  | nil => exact ⟨by simp [textSum, sumP], fun x hx => (by cases hx)⟩
  | cons y d ih =>
   have hpe : sizesP y = y.f4.size + y.f5.size + y.f6.size + y.f7.size + y.f0.size + y.f1.size + y.f2.size := rfl
   refine ⟨?_, fun x hx => ?_⟩
   ·have := ih.1
    simp only [textSum, sumP, List.map_cons, List.sum_cons] at this ⊢
    omega
   ·rcases List.mem_cons.1 hx with rfl | hx
    ·simp only [sumP, List.map_cons, List.sum_cons]; omega
    ·have := ih.2 x hx
     simp only [sumP, List.map_cons, List.sum_cons] at this ⊢; omega
 have h1 := key l
 exact ⟨h.1, by omega, fun x hx => by have := h1.2 x hx; omega⟩
def confP (x : S109) : Bool := x.f3 && (x.f4.toList.isEmpty && (x.f8 || (x.f6.toList.isEmpty && x.f1.toList.isEmpty)))
def oneP (x : S109) : Bool := isTextP x || confP x
def plainP (x : S109) : Bool := !lineless x.f0 && (!lineless x.f1 && !lineless x.f2)
def rightP : Bool → List S109 → Bool
 | _, [] => true
 | tx, x :: r => oneP x && (plainP x && ((!isTextP x || (!tx && (!x.f4.toList.isEmpty && (r.isEmpty || endsL x.f4.data.toList)))) && rightP (isTextP x) r))
theorem rightP_cons (tx : Bool) (x : S109) (r : List S109) : rightP tx (x :: r) = (oneP x && (plainP x && ((!isTextP x || (!tx && (!x.f4.toList.isEmpty && (r.isEmpty || endsL x.f4.data.toList)))) && rightP (isTextP x) r))) := by rw [rightP]
theorem text_hunk (x : S109) (h : isTextP x = true) : x.f3 = false := by
 unfold isTextP at h
 simp only [Bool.and_eq_true, Bool.not_eq_true'] at h
 exact h.2.2.2.1
theorem one_hunk (x : S109) (h : oneP x = true) : isTextP x = !x.f3 := by
 unfold oneP at h
 cases ht : isTextP x with
 | true => rw [text_hunk x ht]; rfl
 | false =>
  rw [ht] at h
  unfold confP at h
  simp only [Bool.false_or, Bool.and_eq_true] at h
  rw [h.1]; rfl
theorem isEmpty_iff {l : List UInt8} : l.isEmpty = true ↔ l = [] := List.isEmpty_iff
theorem toList_empty (s : ByteArray) : (s.toList == ([] : List UInt8)) = s.toList.isEmpty := by
 cases s.toList <;> rfl
theorem sizes_le {x : S109} {M : Nat} (h : sizesP x ≤ M) : x.f0.size ≤ M ∧ x.f1.size ≤ M ∧ x.f2.size ≤ M ∧ x.f4.size ≤ M ∧ x.f5.size ≤ M ∧ x.f6.size ≤ M ∧ x.f7.size ≤ M ∧ x.f0.size + x.f1.size + x.f2.size ≤ M ∧ x.f6.size + x.f1.size ≤ M := by
 unfold sizesP at h; omega
theorem ref_one (x : S109) : tripartiteref07_one.f x.f0 x.f1 x.f2 x.f3 x.f4 x.f5 x.f6 x.f7 x.f8 = some (oneP x) := by
 unfold tripartiteref07_one.f oneP
 cases h3 : x.f3 with
 | true =>
  rw [if_pos rfl]
  have ht : isTextP x = false := by cases h : isTextP x with | false => rfl | true => rw [text_hunk x h] at h3; cases h3
  rw [ht, Bool.false_or]
  unfold confP
  rw [h3]
  by_cases h4 : x.f4.toList = ([] : List UInt8)
  ·rw [if_pos h4, h4]
   cases h8 : x.f8 with
   | true => rw [if_pos rfl]; rfl
   | false =>
    rw [if_neg (by simp)]
    by_cases h6 : x.f6.toList = ([] : List UInt8)
    ·rw [if_pos h6, h6, toList_empty]; rfl
    ·rw [if_neg h6]
     have : x.f6.toList.isEmpty = false := by cases hx : x.f6.toList with | nil => exact absurd hx h6 | cons a t => rfl
     rw [this]; rfl
  ·rw [if_neg h4]
   have : x.f4.toList.isEmpty = false := by cases hx : x.f4.toList with | nil => exact absurd hx h4 | cons a t => rfl
   rw [this]; rfl
 | false =>
  rw [if_neg (by simp)]
  have hc : confP x = false := by unfold confP; rw [h3]; rfl
  rw [hc, Bool.or_false]
  unfold isTextP
  rw [h3]
theorem ref_right_in (l : List S109) (hn : l.length ≤ 4000000000) (hs : ∀ x ∈ l, sizesP x ≤ 1000000000) : ∀ (rest done : List S109) (i : Int) (tx : Bool), l = done ++ rest → i = done.length →
  (done = [] → tx = false) → (∀ u z, done = u ++ [z] → tx = isTextP z ∧ oneP z = true) → Ev (fun k => tripartiteref07_Right.l0 k l i) (rightP tx rest)
 | [], done, i, tx, hl, ei, h0, h1 => by
  refine Ev.succ ?_
  simp only [tripartiteref07_Right.l0]
  exact Ev.neg (by rw [hl]; simp; omega) (Ev.val rfl)
 | x :: rest, done, i, tx, hl, ei, h0, h1 => by
  have hsz : l.length = done.length + (rest.length + 1) := by rw [hl]; simp
  have hw : wrap64 (i + 1) = i + 1 := wrap_in (by omega) (by omega)
  have hw2 : wrap64 (i - 1) = i - 1 := wrap_in (by omega) (by omega)
  have hrd : rd_T109 l i = x := rd109_at l i done rest x hl ei
  have hx := sizes_le (hs x (by rw [hl]; simp))
  refine Ev.succ ?_
  simp only [tripartiteref07_Right.l0, hrd]
  refine Ev.pos (by omega) (Ev.pos (by omega) (Ev.bind (Ev.const (ref_one x)) ?_))
  cases ho : oneP x with
  | false =>
   refine Ev.neg (by simp) (Ev.succ ?_)
   simp only [tripartiteref07_Right.j1]
   refine Ev.pos (by trivial) (Ev.val ?_)
   rw [rightP_cons tx x, ho]; rfl
  | true =>
   have next : Ev (fun k => tripartiteref07_Right.l0 k l (i + 1)) (rightP (isTextP x) rest) := ref_right_in l hn hs rest (done ++ [x]) (i + 1) (isTextP x) (by rw [hl]; simp) (by simp; omega) (fun h => by simp at h) (fun u z h => by
    obtain ⟨_, h2⟩ := List.append_inj' h rfl
    rw [← (List.cons.inj h2).1]; exact ⟨rfl, ho⟩)
   refine Ev.pos rfl (Ev.bind (ev_Plain3 x.f0 x.f1 x.f2 (by omega) (by omega) (by omega) _ _ _ _ _ _) (Ev.succ ?_))
   simp only [tripartiteref07_Right.j1, hw, hw2]
   cases hp : (!lineless x.f0 && (!lineless x.f1 && !lineless x.f2)) with
   | false =>
    refine Ev.pos rfl (Ev.val ?_)
    rw [rightP_cons tx x, ho]; unfold plainP; rw [hp]; rfl
   | true =>
    refine Ev.neg (by simp) ?_
    have hoh := one_hunk x ho
    cases h3 : x.f3 with
    | true =>
     rw [h3] at hoh
     refine Ev.pos rfl (next.cast ?_)
     rw [rightP_cons tx x, ho]; unfold plainP; rw [hp, hoh]; simp
    | false =>
     rw [h3] at hoh
     refine Ev.neg (by simp) ?_
     by_cases he : x.f4.toList = ([] : List UInt8)
     ·refine Ev.pos he (Ev.val ?_)
      rw [rightP_cons tx x, ho]; unfold plainP; rw [hp, hoh, he]; simp
     ·have he2 : x.f4.toList.isEmpty = false := by cases hx : x.f4.toList with | nil => exact absurd hx he | cons a t => rfl
      refine Ev.neg he ?_
      have tailE : tx = false → Ev (fun k => if i + 1 < (l.length : Int) then ((tripartiteref01_Ends.f x.f4).bind fun t391 => (if t391 = true then (tripartiteref07_Right.l0 k l (i + 1)) else (some false))) else (tripartiteref07_Right.l0 k l (i + 1))) (rightP tx (x :: rest)) := by
       intro htx
       cases rest with
       | nil =>
        refine Ev.neg (by simp at hsz; omega) (next.cast ?_)
        rw [rightP_cons tx x, ho]; unfold plainP; rw [hp, hoh, he2, htx]; simp
       | cons y rest =>
        refine Ev.pos (by simp at hsz; omega) (Ev.bind (Ev.const (ev_ends x.f4 (by omega))) ?_)
        cases hq : endsL x.f4.data.toList with
        | false =>
         refine Ev.neg (by simp) (Ev.val ?_)
         rw [rightP_cons tx x, ho, hoh, he2, htx, hq]; simp
        | true =>
         refine Ev.pos rfl (next.cast ?_)
         rw [rightP_cons tx x, ho]; unfold plainP; rw [hp, hoh, he2, htx, hq]; simp
      rcases List.eq_nil_or_concat done with rfl | ⟨u, z, rfl⟩
      ·refine Ev.neg (by simp at ei; omega) (tailE (h0 rfl))
      ·rw [List.concat_eq_append] at hl ei h1 hsz
       obtain ⟨htx, hoz⟩ := h1 u z rfl
       have hrz : rd_T109 l (i - 1) = z := rd109_at l (i - 1) u (x :: rest) z (by rw [hl]; simp) (by simp at ei; omega)
       simp only [List.length_append, List.length_singleton] at ei hsz
       refine Ev.pos (by omega) (Ev.pos (by omega) (Ev.pos (by omega) ?_))
       rw [hrz]
       have hzh := one_hunk z hoz
       cases hz3 : z.f3 with
       | true =>
        rw [hz3] at hzh
        exact Ev.pos rfl (tailE (by rw [htx, hzh]; rfl))
       | false =>
        rw [hz3] at hzh
        refine Ev.neg (by simp) (Ev.val ?_)
        rw [rightP_cons tx x, ho, hoh, he2, htx, hzh]; simp
theorem ev_ref_right (l : List S109) (hn : l.length ≤ 4000000000) (hs : ∀ x ∈ l, sizesP x ≤ 1000000000) : Ev (fun k => tripartiteref07_Right.f k l) (rightP false l) :=
 ref_right_in l hn hs l [] 0 false rfl rfl (fun _ => rfl) (fun u z h => by have := congrArg List.length h; simp at this)
end Go.Proofs.Ytfiamddinkokbaa.F
end
