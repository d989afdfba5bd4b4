/- Texts joined into one file (wip/tools/pack.py): Open, Lcs, MidLaw, FindLaw, Sweep, Pure, Pure01, Pure07, PureOf, PureLines, PureMark, PureMark2, PureDoc, PureDoc2, MergeP, Table, PureChunk, PureNum, PureTexts, PureSames, SamesWalk, OpenHow -/
import Derived.Test.YtfiamddinkokbaaMS1
import Derived.SliceStrings
import Derived.SizedLaws
import Derived.Deep.Slices
import Derived.Deep.Fields
import Derived.ChangeSame
import Derived.Lib.SmallJoins
import Derived.Test.YtfiamddinkokbaaProg
import Derived.Test.YtfiamddinkokbaaMS2
import Derived.Test.YtfiamddinkokbaaMS3
import Derived.Test.YtfiamddinkokbaaMS4
import Derived.Test.YtfiamddinkokbaaMS5
import Derived.BigQuiet
import Derived.Laws.IdiomArrays
import Derived.OpenShut
section
set_option linter.unusedVariables false
set_option linter.unusedSimpArgs false
namespace Go.Proofs.Ytfiamddinkokbaa.F
open Go.RowKit Go.Proofs.YtfiamddinkokbaaW.PrintWords Go.ChangeShapes Go.WideShapes Go.Deep Go.Joins
set_option linter.unusedVariables false
set_option linter.unusedSimpArgs false
section
variable {H : Type} {enc : TypeId × Value → H} {P : Program} {W : World} {base : Nat} {spare : Nat → Bool} {held : Bool}
end
section
variable {H : Type} {enc : TypeId × Value → H} {P : Program} {w : World} {base : Nat} {spare : Nat → Bool} {held : Bool}
end
section
variable {H : Type} {enc : TypeId × Value → H} {W : World} {base : Nat} {spare : Nat → Bool} {held : Bool}
end
end Go.Proofs.Ytfiamddinkokbaa.F
end

section
set_option linter.unusedVariables false
set_option linter.unusedSimpArgs false
namespace Go.Proofs.Ytfiamddinkokbaa.Lcs
set_option linter.unusedVariables false
set_option linter.unusedSimpArgs false
def lcs : List Int → List Int → Nat
 | [], _ => 0
 | _ :: _, [] => 0
 | x :: a, y :: b => if x = y then lcs a b + 1 else max (lcs a (y :: b)) (lcs (x :: a) b)
termination_by a b => a.length + b.length
theorem lcs_ge : ∀ (a b c : List Int), c.Sublist a → c.Sublist b → c.length ≤ lcs a b
 | [], b, c, ha, _ => by rw [List.sublist_nil.1 ha]; simp
 | x :: a, [], c, _, hb => by rw [List.sublist_nil.1 hb]; simp
 | x :: a, y :: b, c, ha, hb => by
  rw [lcs]
  cases c with
  | nil => simp
  | cons z c =>
   split
   ·have := lcs_ge a b c ha.tail hb.tail
    simp only [List.length_cons]; omega
   ·rename_i e
    by_cases hz : z = x
    ·have hzy : z ≠ y := hz ▸ e
     have h2 : (z :: c).Sublist b := by
      cases hb with
      | cons _ h => exact h
      | cons_cons _ h => exact absurd rfl hzy
     have := lcs_ge (x :: a) b (z :: c) ha h2
     omega
    ·have h1 : (z :: c).Sublist a := by
      cases ha with
      | cons _ h => exact h
      | cons_cons _ h => exact absurd rfl hz
     have := lcs_ge a (y :: b) (z :: c) h1 hb
     omega
termination_by a b => a.length + b.length
theorem lcs_ex : ∀ (a b : List Int), ∃ c : List Int, c.Sublist a ∧ c.Sublist b ∧ c.length = lcs a b
 | [], b => ⟨[], by simp, by simp, by simp [lcs]⟩
 | x :: a, [] => ⟨[], by simp, by simp, by simp [lcs]⟩
 | x :: a, y :: b => by
  rw [lcs]
  split
  ·rename_i e
   subst e
   obtain ⟨c, h1, h2, h3⟩ := lcs_ex a b
   exact ⟨x :: c, h1.cons_cons _, h2.cons_cons _, by simp [h3]⟩
  ·by_cases hm : lcs (x :: a) b ≤ lcs a (y :: b)
   ·obtain ⟨c, h1, h2, h3⟩ := lcs_ex a (y :: b)
    exact ⟨c, h1.cons _, h2, by omega⟩
   ·obtain ⟨c, h1, h2, h3⟩ := lcs_ex (x :: a) b
    exact ⟨c, h1, h2.cons _, by omega⟩
termination_by a b => a.length + b.length
theorem lcs_mono {a a' b b' : List Int} (ha : a.Sublist a') (hb : b.Sublist b') : lcs a b ≤ lcs a' b' := by
 obtain ⟨c, h1, h2, h3⟩ := lcs_ex a b
 rw [← h3]; exact lcs_ge _ _ c (h1.trans ha) (h2.trans hb)
theorem lcs_rev_le (a b : List Int) : lcs a b ≤ lcs a.reverse b.reverse := by
 obtain ⟨c, h1, h2, h3⟩ := lcs_ex a b
 rw [← h3, ← List.length_reverse]
 exact lcs_ge _ _ c.reverse (List.reverse_sublist.2 h1) (List.reverse_sublist.2 h2)
theorem lcs_reverse (a b : List Int) : lcs a.reverse b.reverse = lcs a b := by
 have h1 := lcs_rev_le a b
 have h2 := lcs_rev_le a.reverse b.reverse
 rw [List.reverse_reverse, List.reverse_reverse] at h2
 omega
theorem lcs_append (a1 b1 a2 b2 : List Int) : lcs a1 b1 + lcs a2 b2 ≤ lcs (a1 ++ a2) (b1 ++ b2) := by
 obtain ⟨c, h1, h2, h3⟩ := lcs_ex a1 b1
 obtain ⟨d, g1, g2, g3⟩ := lcs_ex a2 b2
 rw [← h3, ← g3, ← List.length_append]
 exact lcs_ge _ _ _ (h1.append g1) (h2.append g2)
theorem lcs_le_left (a b : List Int) : lcs a b ≤ a.length := by
 obtain ⟨c, h1, h2, h3⟩ := lcs_ex a b
 rw [← h3]; exact h1.length_le
theorem lcs_le_right (a b : List Int) : lcs a b ≤ b.length := by
 obtain ⟨c, h1, h2, h3⟩ := lcs_ex a b
 rw [← h3]; exact h2.length_le
theorem lcs_cons_same (x : Int) (a b : List Int) : lcs (x :: a) (x :: b) = lcs a b + 1 := by rw [lcs, if_pos rfl]
theorem lcs_snoc_same (x : Int) (a b : List Int) : lcs (a ++ [x]) (b ++ [x]) = lcs a b + 1 := by
 rw [← lcs_reverse]; simp only [List.reverse_append, List.reverse_cons, List.reverse_nil, List.nil_append, List.singleton_append]
 rw [lcs_cons_same, lcs_reverse]
theorem lcs_snoc_ne {x y : Int} (h : x ≠ y) (a b : List Int) : lcs (a ++ [x]) (b ++ [y]) = max (lcs a (b ++ [y])) (lcs (a ++ [x]) b) := by
 rw [← lcs_reverse, ← lcs_reverse a, ← lcs_reverse (a ++ [x]) b]
 simp only [List.reverse_append, List.reverse_cons, List.reverse_nil, List.nil_append, List.singleton_append]
 rw [lcs, if_neg h]
theorem lcs_nil_right (a : List Int) : lcs a [] = 0 := by cases a <;> simp [lcs]
theorem lcs_nil_left (b : List Int) : lcs [] b = 0 := by simp [lcs]
theorem sub_snoc {c b : List Int} {y : Int} (h : c.Sublist (b ++ [y])) : c.dropLast.Sublist b := by
 have h1 := List.reverse_sublist.2 h
 rw [List.reverse_append] at h1
 have h2 := h1.tail
 rw [List.tail_reverse] at h2
 exact List.reverse_sublist.1 h2
theorem sub_take {c a : List Int} {p p' : Nat} (hp : p' ≤ p + 1) (h : c.Sublist (a.take p')) : c.dropLast.Sublist (a.take p) := by
 by_cases h1 : p' ≤ p
 ·exact ((List.dropLast_sublist c).trans h).trans (List.take_sublist_take_left h1)
 ·obtain rfl : p' = p + 1 := by omega
  by_cases h2 : p < a.length
  ·rw [List.take_succ_eq_append_getElem h2] at h
   exact sub_snoc h
  ·rw [List.take_of_length_le (by omega)] at h
   rw [List.take_of_length_le (by omega)]
   exact (List.dropLast_sublist c).trans h
theorem lcs_take_le (a b : List Int) {p p' q q' : Nat} (hp : p' ≤ p + 1) (hq : q' ≤ q + 1) : lcs (a.take p') (b.take q') ≤ lcs (a.take p) (b.take q) + 1 := by
 obtain ⟨c, h1, h2, h3⟩ := lcs_ex (a.take p') (b.take q')
 have := lcs_ge _ _ c.dropLast (sub_take hp h1) (sub_take hq h2)
 rw [List.length_dropLast] at this
 omega
def D0 (a b : List Int) (u v : Int) : Int := u + v - 2 * ((lcs (a.take u.toNat) (b.take v.toNat) : Nat) : Int)
theorem D0_zero (a b : List Int) : D0 a b 0 0 = 0 := by unfold D0; simp [lcs]
theorem D0_neg (a b : List Int) {u v : Int} (h : u ≤ 0 ∨ v ≤ 0) : D0 a b u v = u + v := by
 unfold D0
 rcases h with h | h
 ·rw [show u.toNat = 0 by omega]; simp [lcs_nil_left]
 ·rw [show v.toNat = 0 by omega]; simp [lcs_nil_right]
theorem D0_right (a b : List Int) (u v : Int) : D0 a b (u + 1) v ≤ D0 a b u v + 1 := by
 have h := lcs_mono (a := a.take u.toNat) (a' := a.take (u + 1).toNat) (b := b.take v.toNat) (b' := b.take v.toNat) (List.take_sublist_take_left (by omega)) (List.Sublist.refl _)
 unfold D0; omega
theorem D0_down (a b : List Int) (u v : Int) : D0 a b u (v + 1) ≤ D0 a b u v + 1 := by
 have h := lcs_mono (a := a.take u.toNat) (a' := a.take u.toNat) (b := b.take v.toNat) (b' := b.take (v + 1).toNat) (List.Sublist.refl _) (List.take_sublist_take_left (by omega))
 unfold D0; omega
theorem D0_diag (a b : List Int) (u v : Int) : D0 a b u v ≤ D0 a b (u + 1) (v + 1) := by
 have h := lcs_take_le a b (p := u.toNat) (p' := (u + 1).toNat) (q := v.toNat) (q' := (v + 1).toNat) (by omega) (by omega)
 unfold D0; omega
theorem D0_diags (a b : List Int) (u v : Int) (s : Nat) : D0 a b u v ≤ D0 a b (u + s) (v + s) := by
 induction s with
 | zero => simp
 | succ s ih =>
  have := D0_diag a b (u + s) (v + s)
  have e1 : u + ((s + 1 : Nat) : Int) = u + s + 1 := by omega
  have e2 : v + ((s + 1 : Nat) : Int) = v + s + 1 := by omega
  rw [e1, e2]; omega
theorem D0_along (a b : List Int) (k : Int) {t t' : Int} (h : t ≤ t') : D0 a b t (t - k) ≤ D0 a b t' (t' - k) := by
 have := D0_diags a b t (t - k) (t' - t).toNat
 have e1 : t + (((t' - t).toNat : Nat) : Int) = t' := by omega
 have e2 : t - k + (((t' - t).toNat : Nat) : Int) = t' - k := by omega
 rw [e1, e2] at this
 exact this
def Hit (a b : List Int) (u v : Int) : Prop := 0 ≤ u ∧ 0 ≤ v ∧ u < a.length ∧ v < b.length ∧ a[u.toNat]? = b[v.toNat]?
theorem D0_hit {a b : List Int} {u v : Int} (h : Hit a b u v) : D0 a b (u + 1) (v + 1) = D0 a b u v := by
 obtain ⟨h0, h1, h2, h3, h4⟩ := h
 have hu : u.toNat < a.length := by omega
 have hv : v.toNat < b.length := by omega
 rw [List.getElem?_eq_getElem hu, List.getElem?_eq_getElem hv] at h4
 have e := Option.some.inj h4
 unfold D0
 rw [show (u + 1).toNat = u.toNat + 1 by omega, show (v + 1).toNat = v.toNat + 1 by omega, List.take_succ_eq_append_getElem hu, List.take_succ_eq_append_getElem hv, e, lcs_snoc_same]
 omega
theorem D0_miss {a b : List Int} {u v : Int} (h0 : 0 ≤ u) (h1 : 0 ≤ v) (h : ¬ Hit a b u v) : D0 a b u (v + 1) ≤ D0 a b (u + 1) (v + 1) - 1 ∨ D0 a b (u + 1) v ≤ D0 a b (u + 1) (v + 1) - 1 := by
 unfold D0
 rw [show (u + 1).toNat = u.toNat + 1 by omega, show (v + 1).toNat = v.toNat + 1 by omega]
 by_cases hu : u.toNat < a.length
 ·by_cases hv : v.toNat < b.length
  ·have hne : a[u.toNat] ≠ b[v.toNat] := fun e => h ⟨h0, h1, by omega, by omega, by rw [List.getElem?_eq_getElem hu, List.getElem?_eq_getElem hv, e]⟩
   have e := lcs_snoc_ne hne (a.take u.toNat) (b.take v.toNat)
   rw [← List.take_succ_eq_append_getElem hu, ← List.take_succ_eq_append_getElem hv] at e
   omega
  ·right
   rw [List.take_of_length_le (l := b) (i := v.toNat + 1) (by omega), List.take_of_length_le (l := b) (i := v.toNat) (by omega)]
   omega
 ·left
  rw [List.take_of_length_le (l := a) (i := u.toNat + 1) (by omega), List.take_of_length_le (l := a) (i := u.toNat) (by omega)]
  omega
theorem D0_abs (a b : List Int) {u v : Int} (h0 : 0 ≤ u) (h1 : 0 ≤ v) : u - v ≤ D0 a b u v ∧ v - u ≤ D0 a b u v := by
 have h2 := lcs_le_left (a.take u.toNat) (b.take v.toNat)
 have h3 := lcs_le_right (a.take u.toNat) (b.take v.toNat)
 rw [List.length_take] at h2 h3
 unfold D0
 omega
theorem D0_par (a b : List Int) (u v : Int) : (D0 a b u v - (u - v)) % 2 = 0 := by unfold D0; omega
def DD (a b : List Int) : Int := (a.length : Int) + b.length - 2 * ((lcs a b : Nat) : Int)
theorem D0_all (a b : List Int) : D0 a b a.length b.length = DD a b := by
 unfold D0 DD
 rw [List.take_of_length_le (by omega), List.take_of_length_le (by omega)]
theorem DD_reverse (a b : List Int) : DD a.reverse b.reverse = DD a b := by unfold DD; rw [lcs_reverse]; simp
theorem lcs_cut (a b : List Int) (p q : Nat) : lcs (a.take p) (b.take q) + lcs (a.drop p) (b.drop q) ≤ lcs a b := by
 have := lcs_append (a.take p) (b.take q) (a.drop p) (b.drop q)
 rwa [List.take_append_drop, List.take_append_drop] at this
theorem rev_take (a : List Int) (u : Int) : a.reverse.take ((a.length : Int) - u).toNat = (a.drop (min u.toNat a.length)).reverse := by
 rw [List.take_reverse]
 congr 1
 by_cases h : u < 0
 ·rw [show a.length - ((a.length : Int) - u).toNat = 0 by omega, show min u.toNat a.length = 0 by omega]
 ·rw [show a.length - ((a.length : Int) - u).toNat = min u.toNat a.length by omega]
theorem take_min (a : List Int) (p : Nat) : a.take (min p a.length) = a.take p := by
 by_cases h : p ≤ a.length
 ·rw [Nat.min_eq_left h]
 ·rw [Nat.min_eq_right (by omega), List.take_of_length_le (Nat.le_refl _), List.take_of_length_le (by omega)]
theorem D1_eq (a b : List Int) (u v : Int) : D0 a.reverse b.reverse (a.length - u) (b.length - v) = (a.length - u) + (b.length - v) - 2 * ((lcs (a.drop (min u.toNat a.length)) (b.drop (min v.toNat b.length)) : Nat) : Int) := by
 unfold D0
 rw [rev_take, rev_take, lcs_reverse]
theorem D_sum (a b : List Int) (u v : Int) : DD a b ≤ D0 a b u v + D0 a.reverse b.reverse (a.length - u) (b.length - v) := by
 rw [D1_eq]
 have h := lcs_cut a b (min u.toNat a.length) (min v.toNat b.length)
 rw [take_min, take_min] at h
 unfold DD D0
 omega
theorem Hit_rev {a b : List Int} {u v : Int} (h : Hit a b u v) : Hit a.reverse b.reverse (a.length - 1 - u) (b.length - 1 - v) := by
 obtain ⟨h0, h1, h2, h3, h4⟩ := h
 refine ⟨by omega, by omega, by rw [List.length_reverse]; omega, by rw [List.length_reverse]; omega, ?_⟩
 rw [List.getElem?_reverse (by omega), List.getElem?_reverse (by omega)]
 rw [show a.length - 1 - ((a.length : Int) - 1 - u).toNat = u.toNat by omega, show b.length - 1 - ((b.length : Int) - 1 - v).toNat = v.toNat by omega]
 exact h4
theorem on_way (a b : List Int) (e : Int) (he : 0 ≤ e) : ∀ (s : Nat) (u v : Int), u + v = s → 0 ≤ u → 0 ≤ v → u ≤ a.length → v ≤ b.length → D0 a b u v + D0 a.reverse b.reverse (a.length - u) (b.length - v) = DD a b → e ≤ D0 a b u v →
  ∃ u v : Int, 0 ≤ u ∧ 0 ≤ v ∧ u ≤ a.length ∧ v ≤ b.length ∧ D0 a b u v = e ∧ D0 a.reverse b.reverse (a.length - u) (b.length - v) = DD a b - e := by
 intro s
 induction s using Nat.strongRecOn with
 | _ s ih =>
  intro u v hs h0 h1 h2 h3 hd hle
  by_cases hq : D0 a b u v = e
  ·exact ⟨u, v, h0, h1, h2, h3, hq, by omega⟩
  have stepL : 1 ≤ u → D0 a b (u - 1) v ≤ D0 a b u v - 1 → ∃ u v : Int, 0 ≤ u ∧ 0 ≤ v ∧ u ≤ a.length ∧ v ≤ b.length ∧ D0 a b u v = e ∧ D0 a.reverse b.reverse (a.length - u) (b.length - v) = DD a b - e := by
   intro hu hx
   have g1 := D0_right a.reverse b.reverse (a.length - u) (b.length - v)
   have e1 : (a.length : Int) - u + 1 = a.length - (u - 1) := by omega
   rw [e1] at g1
   have g2 := D_sum a b (u - 1) v
   have g3 := D0_right a b (u - 1) v
   rw [show u - 1 + 1 = u by omega] at g3
   exact ih (s - 1) (by omega) (u - 1) v (by omega) (by omega) h1 (by omega) h3 (by omega) (by omega)
  have stepD : 1 ≤ v → D0 a b u (v - 1) ≤ D0 a b u v - 1 → ∃ u v : Int, 0 ≤ u ∧ 0 ≤ v ∧ u ≤ a.length ∧ v ≤ b.length ∧ D0 a b u v = e ∧ D0 a.reverse b.reverse (a.length - u) (b.length - v) = DD a b - e := by
   intro hu hx
   have g1 := D0_down a.reverse b.reverse (a.length - u) (b.length - v)
   have e1 : (b.length : Int) - v + 1 = b.length - (v - 1) := by omega
   rw [e1] at g1
   have g2 := D_sum a b u (v - 1)
   have g3 := D0_down a b u (v - 1)
   rw [show v - 1 + 1 = v by omega] at g3
   exact ih (s - 1) (by omega) u (v - 1) (by omega) h0 (by omega) h2 (by omega) (by omega) (by omega)
  by_cases hu : u = 0
  ·subst hu
   have g := D0_neg a b (u := 0) (v := v) (.inl (by omega))
   have g' := D0_neg a b (u := 0) (v := v - 1) (.inl (by omega))
   exact stepD (by clear stepL stepD; omega) (by clear stepL stepD; omega)
  by_cases hv : v = 0
  ·subst hv
   have g := D0_neg a b (u := u) (v := 0) (.inr (by omega))
   have g' := D0_neg a b (u := u - 1) (v := 0) (.inr (by omega))
   exact stepL (by clear stepL stepD; omega) (by clear stepL stepD; omega)
  by_cases hh : Hit a b (u - 1) (v - 1)
  ·have g := D0_hit hh
   rw [show u - 1 + 1 = u by omega, show v - 1 + 1 = v by omega] at g
   have g2 := D0_hit (Hit_rev hh)
   rw [show (a.length : Int) - 1 - (u - 1) + 1 = a.length - (u - 1) by omega, show (b.length : Int) - 1 - (v - 1) + 1 = b.length - (v - 1) by omega,
    show (a.length : Int) - 1 - (u - 1) = a.length - u by omega, show (b.length : Int) - 1 - (v - 1) = b.length - v by omega] at g2
   clear stepL stepD
   exact ih (s - 2) (by omega) (u - 1) (v - 1) (by omega) (by omega) (by omega) (by omega) (by omega) (by omega) (by omega)
  ·have g := D0_miss (a := a) (b := b) (u := u - 1) (v := v - 1) (by omega) (by omega) hh
   rw [show u - 1 + 1 = u by omega, show v - 1 + 1 = v by omega] at g
   rcases g with g | g
   ·exact stepL (by clear stepL stepD; omega) g
   ·exact stepD (by clear stepL stepD; omega) g
theorem on_way_all (a b : List Int) (e : Int) (he : 0 ≤ e) (he2 : e ≤ DD a b) :
  ∃ u v : Int, 0 ≤ u ∧ 0 ≤ v ∧ u ≤ a.length ∧ v ≤ b.length ∧ D0 a b u v = e ∧ D0 a.reverse b.reverse (a.length - u) (b.length - v) = DD a b - e := by
 have h := D0_all a b
 refine on_way a b e he (a.length + b.length) a.length b.length (by omega) (by omega) (by omega) (by omega) (by omega) ?_ (by omega)
 rw [h, show (a.length : Int) - a.length = 0 by omega, show (b.length : Int) - b.length = 0 by omega, D0_zero]
 omega
def Far (a b : List Int) (d k t : Int) : Prop := 0 ≤ t ∧ k ≤ t ∧ D0 a b t (t - k) ≤ d ∧ d < D0 a b (t + 1) (t + 1 - k)
theorem Far.le {a b : List Int} {d k t t' : Int} (h : Far a b d k t) (h2 : D0 a b t' (t' - k) ≤ d) : t' ≤ t := by
 by_cases hc : t' ≤ t
 ·exact hc
 ·have := D0_along a b k (t := t + 1) (t' := t') (by omega)
  have := h.2.2.2
  omega
def Begin (a b : List Int) (d k u : Int) : Prop := 0 ≤ u ∧ k ≤ u ∧ D0 a b u (u - k) = d ∧ (∀ e, u ≤ e → ¬ Hit a b e (e - k) → d < D0 a b (e + 1) (e + 1 - k))
theorem begin_zero (a b : List Int) : Begin a b 0 0 0 := by
 refine ⟨by omega, by omega, by simpa using D0_zero a b, fun e he hh => ?_⟩
 have g := D0_miss (a := a) (b := b) (u := e) (v := e - 0) he (by omega) hh
 have g1 := (D0_abs a b (u := e) (v := e - 0 + 1) he (by omega)).2
 have g2 := (D0_abs a b (u := e + 1) (v := e - 0) (by omega) (by omega)).1
 rw [show e - 0 + 1 = e + 1 - 0 by omega] at g g1
 omega
theorem begin_of {a b : List Int} {d k tl tr u : Int} (hd : 1 ≤ d) (h1 : -d ≤ k) (h2 : k ≤ d) (hp : (d - k) % 2 = 0) (hl : k ≠ -d → Far a b (d - 1) (k - 1) tl) (hr : k ≠ d → Far a b (d - 1) (k + 1) tr)
  (hu : u = if k = -d ∨ (k ≠ d ∧ tl < tr) then tr else tl + 1) : Begin a b d k u := by
 have key : 0 ≤ u ∧ k ≤ u ∧ D0 a b u (u - k) ≤ d ∧ d - 1 ≤ D0 a b u (u - k) ∧ (k ≠ -d → tl + 1 ≤ u) ∧ (k ≠ d → tr ≤ u) := by
  by_cases hc : k = -d ∨ (k ≠ d ∧ tl < tr)
  ·rw [if_pos hc] at hu
   replace hu := hu.symm
   subst hu
   have hk : k ≠ d := by omega
   obtain ⟨a1, a2, a3, a4⟩ := hr hk
   have b1 := D0_down a b tr (tr - (k + 1))
   rw [show tr - (k + 1) + 1 = tr - k by omega] at b1
   have b2 := D0_right a b tr (tr - k)
   rw [show tr + 1 - (k + 1) = tr - k by omega] at a4
   exact ⟨a1, by omega, by omega, by omega, fun hne => by omega, fun _ => by omega⟩
  ·rw [if_neg hc] at hu
   have hk : k ≠ -d := fun e => hc (.inl e)
   obtain ⟨a1, a2, a3, a4⟩ := hl hk
   subst hu
   have b1 := D0_right a b tl (tl - (k - 1))
   rw [show tl - (k - 1) = tl + 1 - k by omega] at b1 a3
   have b2 := D0_down a b (tl + 1) (tl + 1 - k)
   rw [show tl + 1 - (k - 1) = tl + 1 - k + 1 by omega] at a4
   exact ⟨by omega, by omega, by omega, by omega, fun _ => by omega, fun hne => by omega⟩
 obtain ⟨k1, k2, k3, k4, k5, k6⟩ := key
 have hpar := D0_par a b u (u - k)
 refine ⟨k1, k2, by omega, fun e he hh => ?_⟩
 have g := D0_miss (a := a) (b := b) (u := e) (v := e - k) (by omega) (by omega) hh
 rw [show e - k + 1 = e + 1 - k by omega] at g
 rcases g with g | g
 ·by_cases hc : d < D0 a b (e + 1) (e + 1 - k)
  ·exact hc
  ·exfalso
   by_cases hk : k = -d
   ·have := (D0_abs a b (u := e) (v := e + 1 - k) (by omega) (by omega)).2
    omega
   ·have f := (hl hk).le (t' := e) (by rw [show e - (k - 1) = e + 1 - k by omega]; omega)
    have := k5 hk
    omega
 ·by_cases hc : d < D0 a b (e + 1) (e + 1 - k)
  ·exact hc
  ·exfalso
   by_cases hk : k = d
   ·have := (D0_abs a b (u := e + 1) (v := e - k) (by omega) (by omega)).1
    omega
   ·have f := (hr hk).le (t' := e + 1) (by rw [show e + 1 - (k + 1) = e - k by omega]; omega)
    have := k6 hk
    omega
theorem far_of_begin {a b : List Int} {d k u e : Int} (h : Begin a b d k u) (hue : u ≤ e) (hhit : ∀ t, u ≤ t → t < e → Hit a b t (t - k)) (hno : ¬ Hit a b e (e - k)) :
  Far a b d k e ∧ D0 a b e (e - k) = d := by
 obtain ⟨h1, h2, h3, h4⟩ := h
 have : ∀ s : Nat, u + s ≤ e → D0 a b (u + s) (u + s - k) = d := by
  intro s
  induction s with
  | zero => intro _; simpa using h3
  | succ s ih =>
   intro hs
   have g := D0_hit (hhit (u + s) (by omega) (by omega))
   have := ih (by omega)
   rw [show u + ((s + 1 : Nat) : Int) = u + s + 1 by omega, show u + (s : Int) + 1 - k = u + s - k + 1 by omega, g]
   exact this
 have hq := this (e - u).toNat (by omega)
 rw [show u + (((e - u).toNat : Nat) : Int) = e by omega] at hq
 exact ⟨⟨by omega, by omega, by omega, h4 e hue hno⟩, hq⟩
theorem met {a b : List Int} {d d' k u e t : Int} (hb : Begin a b d k u) (hue : u ≤ e) (hhit : ∀ t, u ≤ t → t < e → Hit a b t (t - k)) (hno : ¬ Hit a b e (e - k))
  (hr : Far a.reverse b.reverse d' ((a.length : Int) - b.length - k) t) (hdd : d + d' = DD a b) (hm : (a.length : Int) ≤ e + t) :
  0 ≤ u ∧ 0 ≤ u - k ∧ e ≤ a.length ∧ e - k ≤ b.length ∧ D0 a b u (u - k) = d ∧ D0 a b e (e - k) = d ∧ D0 a.reverse b.reverse (a.length - e) (b.length - (e - k)) = d' := by
 obtain ⟨hf, hd⟩ := far_of_begin hb hue hhit hno
 obtain ⟨b1, b2, b3, b4⟩ := hb
 obtain ⟨r1, r2, r3, r4⟩ := hr
 have m1 := D0_along a.reverse b.reverse ((a.length : Int) - b.length - k) (t := a.length - e) (t' := t) (by omega)
 rw [show (a.length : Int) - e - (a.length - b.length - k) = b.length - (e - k) by omega] at m1
 have s1 := D_sum a b e (e - k)
 have hE : D0 a.reverse b.reverse (a.length - e) (b.length - (e - k)) = d' := by omega
 refine ⟨b1, by omega, ?_, ?_, b3, hd, hE⟩
 ·by_cases hc : e ≤ a.length
  ·exact hc
  ·exfalso
   have n1 := D0_neg a.reverse b.reverse (u := a.length - e) (v := b.length - (e - k)) (.inl (by omega))
   have n2 := D0_neg a.reverse b.reverse (u := 0) (v := b.length - (a.length - k)) (.inl (by omega))
   have m2 := D0_along a.reverse b.reverse ((a.length : Int) - b.length - k) (t := 0) (t' := t) (by omega)
   rw [show 0 - ((a.length : Int) - b.length - k) = b.length - (a.length - k) by omega] at m2
   omega
 ·by_cases hc : e - k ≤ b.length
  ·exact hc
  ·exfalso
   have n1 := D0_neg a.reverse b.reverse (u := a.length - e) (v := b.length - (e - k)) (.inr (by omega))
   have n2 := D0_neg a.reverse b.reverse (u := (a.length : Int) - b.length - k) (v := 0) (.inr (by omega))
   have m2 := D0_along a.reverse b.reverse ((a.length : Int) - b.length - k) (t := (a.length : Int) - b.length - k) (t' := t) (by omega)
   rw [show (a.length : Int) - b.length - k - (a.length - b.length - k) = 0 by omega] at m2
   omega
theorem not_met {a b : List Int} {d d' : Int} (h0 : 0 ≤ d) (h0' : 0 ≤ d') (f g : Int → Int) (hf : ∀ k, -d ≤ k → k ≤ d → (d - k) % 2 = 0 → Far a b d k (f k)) (hg : ∀ k, -d' ≤ k → k ≤ d' → (d' - k) % 2 = 0 → Far a.reverse b.reverse d' k (g k))
  (hno : ∀ k, -d ≤ k → k ≤ d → (d - k) % 2 = 0 → -d' ≤ (a.length : Int) - b.length - k → (a.length : Int) - b.length - k ≤ d' → f k + g (a.length - b.length - k) < a.length) : DD a b ≠ d + d' := by
 intro hdd
 obtain ⟨u, v, h1, h2, h3, h4, h5, h6⟩ := on_way_all a b d h0 (by omega)
 have p1 := D0_abs a b h1 h2
 have p2 := D0_abs a.reverse b.reverse (u := a.length - u) (v := b.length - v) (by omega) (by omega)
 have q1 := D0_par a b u v
 have q2 := D0_par a.reverse b.reverse (a.length - u) (b.length - v)
 have hfk := hf (u - v) (by omega) (by omega) (by omega)
 have hgk := hg ((a.length : Int) - b.length - (u - v)) (by omega) (by omega) (by omega)
 have e1 := hfk.le (t' := u) (by rw [show u - (u - v) = v by omega]; omega)
 have e2 := hgk.le (t' := a.length - u) (by rw [show (a.length : Int) - u - (a.length - b.length - (u - v)) = b.length - v by omega]; omega)
 have := hno (u - v) (by omega) (by omega) (by omega) (by omega) (by omega)
 omega
theorem met_least {a b : List Int} {d d' k e t : Int} (hf : Far a b d k e) (hr : Far a.reverse b.reverse d' ((a.length : Int) - b.length - k) t) (hm : (a.length : Int) ≤ e + t) : DD a b ≤ d + d' := by
 have m1 := D0_along a.reverse b.reverse ((a.length : Int) - b.length - k) (t := a.length - e) (t' := t) (by omega)
 rw [show (a.length : Int) - e - (a.length - b.length - k) = b.length - (e - k) by omega] at m1
 have s1 := D_sum a b e (e - k)
 have := hf.2.2.1
 have := hr.2.2.1
 omega
theorem met_lcs {a b : List Int} {d d' k u e : Int} (h0 : 0 ≤ u) (h1 : 0 ≤ u - k) (hue : u ≤ e) (h2 : e ≤ a.length) (h3 : e - k ≤ b.length) (h4 : D0 a b u (u - k) = d) (h5 : D0 a b e (e - k) = d) (h6 : D0 a.reverse b.reverse (a.length - e) (b.length - (e - k)) = d')
  (hdd : d + d' = DD a b) : lcs (a.take u.toNat) (b.take (u - k).toNat) + (e - u).toNat + lcs (a.drop e.toNat) (b.drop (e - k).toNat) = lcs a b := by
 rw [D1_eq, show min e.toNat a.length = e.toNat by omega, show min (e - k).toNat b.length = (e - k).toNat by omega] at h6
 unfold D0 at h4 h5
 unfold DD at hdd
 omega
end Go.Proofs.Ytfiamddinkokbaa.Lcs
end

section
set_option linter.unusedVariables false
set_option linter.unusedSimpArgs false
namespace Go.Proofs.Ytfiamddinkokbaa.F
open Go.RowKit Go.Shelf Go.Proofs.YtfiamddinkokbaaW.PrintWords
set_option linter.unusedVariables false
set_option linter.unusedSimpArgs false
theorem hit_iff {xs ys : List Int} {k t : Int} (h0 : 0 ≤ t) (h1 : 0 ≤ t - k) : Lcs.Hit xs ys t (t - k) ↔ (t < xs.length ∧ t - k < ys.length ∧ rd xs t = rd ys (t - k)) := by
 unfold Lcs.Hit rd
 constructor
 ·rintro ⟨_, _, h2, h3, h4⟩
  refine ⟨h2, h3, ?_⟩
  rw [List.getD_eq_getElem?_getD, List.getD_eq_getElem?_getD, h4]
 ·rintro ⟨h2, h3, h4⟩
  refine ⟨h0, h1, h2, h3, ?_⟩
  rw [List.getD_eq_getElem?_getD, List.getD_eq_getElem?_getD, List.getElem?_eq_getElem (l := xs) (by omega), List.getElem?_eq_getElem (l := ys) (by omega)] at h4
  rw [List.getElem?_eq_getElem (l := xs) (by omega), List.getElem?_eq_getElem (l := ys) (by omega)]
  exact congrArg some h4
theorem slide_law (xs ys : List Int) (k : Int) : ∀ (s : Nat) (u : Int), 0 ≤ u → k ≤ u → (xs.length : Int) - u ≤ s →
  u ≤ slide xs ys k s u ∧ (∀ t, u ≤ t → t < slide xs ys k s u → Lcs.Hit xs ys t (t - k)) ∧ ¬ Lcs.Hit xs ys (slide xs ys k s u) (slide xs ys k s u - k)
 | 0, u, h0, h1, h2 => by
  rw [slide]
  exact ⟨Int.le_refl _, fun t h3 h4 => by omega, fun h => by have := h.2.2.1; omega⟩
 | s + 1, u, h0, h1, h2 => by
  rw [slide]
  split
  ·rename_i h
   obtain ⟨g1, g2, g3⟩ := slide_law xs ys k s (u + 1) (by omega) (by omega) (by omega)
   refine ⟨by omega, fun t h3 h4 => ?_, g3⟩
   by_cases ht : t = u
   ·subst ht; exact (hit_iff h0 (by omega)).2 h
   ·exact g2 t (by omega) h4
  ·rename_i h
   exact ⟨Int.le_refl _, fun t h3 h4 => by omega, fun hh => h ((hit_iff h0 (by omega)).1 hh)⟩
theorem slideI_law (xs ys : List Int) {k u : Int} (h0 : 0 ≤ u) (h1 : k ≤ u) : u ≤ slideI xs ys k u ∧ (∀ t, u ≤ t → t < slideI xs ys k u → Lcs.Hit xs ys t (t - k)) ∧ ¬ Lcs.Hit xs ys (slideI xs ys k u) (slideI xs ys k u - k) :=
 slide_law xs ys k _ u h0 h1 (by omega)
theorem far_le {a b : List Int} {d k t : Int} (h : Lcs.Far a b d k t) (hk : k ≤ d) : t ≤ d + a.length := by
 obtain ⟨h1, h2, h3, _⟩ := h
 have := Lcs.lcs_le_left (a.take t.toNat) (b.take (t - k).toNat)
 rw [List.length_take] at this
 unfold Lcs.D0 at h3
 omega
theorem rd_set_same {l : List Int} {i x : Int} (h0 : 0 ≤ i) (h1 : i < l.length) : rd (l.set i.toNat x) i = x := by
 unfold rd
 rw [List.getD_eq_getElem?_getD, List.getElem?_set, if_pos rfl, if_pos (by omega)]; rfl
theorem rd_set_ne {l : List Int} {i j x : Int} (h0 : 0 ≤ i) (h1 : 0 ≤ j) (h : j ≠ i) : rd (l.set i.toNat x) j = rd l j := by
 unfold rd
 rw [List.getD_eq_getElem?_getD, List.getElem?_set, if_neg (by omega), ← List.getD_eq_getElem?_getD]
theorem bound_set {l : List Int} {i : Nat} {x : Int} (h : ∀ y ∈ l, -1 ≤ y ∧ y ≤ 100000000000) (h0 : 0 ≤ x) (h1 : x ≤ 100000000000) : ∀ y ∈ l.set i x, -1 ≤ y ∧ y ≤ 100000000000 := by
 intro y hy
 rcases List.mem_or_eq_of_mem_set hy with g | g
 ·exact h y g
 ·omega
theorem boundB_in {l : List Int} (h : ∀ x ∈ l, -1 ≤ x ∧ x ≤ 100000000000) : boundB l = true := by
 unfold boundB
 simpa only [Bool.and_eq_true, decide_eq_true_eq, List.all_eq_true] using h
def Fars (xs ys : List Int) (off d k : Int) (far : List Int) : Prop := ∀ j : Int, -d ≤ j → j < k → (d - j) % 2 = 0 → Lcs.Far xs ys d j (rd far (off + j))
def Prev (xs ys : List Int) (off d : Int) (far : List Int) : Prop := (d = 0 → rd far (off + 1) = 0) ∧ (1 ≤ d → Fars xs ys off (d - 1) d far)
theorem begin_law {xs ys : List Int} {off d k : Int} {far : List Int} (hd : 0 ≤ d) (h1 : -d ≤ k) (h2 : k ≤ d) (hp : (d - k) % 2 = 0) (h : Prev xs ys off d far) : Lcs.Begin xs ys d k (beginI far off k d) := by
 by_cases h0 : d = 0
 ·have hk : k = 0 := by omega
  subst hk h0
  have : beginI far off 0 0 = 0 := by
   unfold beginI
   rw [if_pos (.inl rfl), show off + 0 + 1 = off + 1 by omega]
   exact h.1 rfl
  rw [this]; exact Lcs.begin_zero _ _
 ·have hf := h.2 (by omega)
  refine Lcs.begin_of (tl := rd far (off + k - 1)) (tr := rd far (off + k + 1)) (by omega) h1 h2 hp (fun hk => ?_) (fun hk => ?_) rfl
  ·have := hf (k - 1) (by omega) (by omega) (by omega)
   rwa [show off + (k - 1) = off + k - 1 by omega] at this
  ·have := hf (k + 1) (by omega) (by omega) (by omega)
   rwa [show off + (k + 1) = off + k + 1 by omega] at this
def FrontOK (xs ys other : List Int) (off delta n d lim : Int) (par : Bool) (far' : List Int) : Option (Int × Int × Int) → Prop
 | none => Fars xs ys off d (d + 1) far' ∧ ∀ j : Int, -d ≤ j → j < d + 1 → (d - j) % 2 = 0 → ¬ metB par other off (delta - j) lim n (rd far' (off + j)) = true
 | some (u, e, k) => -d ≤ k ∧ k ≤ d ∧ (d - k) % 2 = 0 ∧ Lcs.Begin xs ys d k u ∧ u ≤ e ∧ (∀ t, u ≤ t → t < e → Lcs.Hit xs ys t (t - k)) ∧ ¬ Lcs.Hit xs ys e (e - k) ∧ metB par other off (delta - k) lim n e = true
theorem front_law {xs ys other : List Int} {off delta n d lim : Int} {par : Bool} (hd : 0 ≤ d) (hoff : d + 1 ≤ off) (hdB : d ≤ 20000000000) (hxl : xs.length ≤ 10000000000) (hob : ∀ x ∈ other, -1 ≤ x ∧ x ≤ 100000000000) :
  ∀ (s : Nat) (k : Int) (far : List Int), k + 2 * s = d + 2 → -d ≤ k → off + d + 1 < far.length → (∀ x ∈ far, -1 ≤ x ∧ x ≤ 100000000000) → Prev xs ys off d far → Fars xs ys off d k far →
  (∀ j : Int, -d ≤ j → j < k → (d - j) % 2 = 0 → ¬ metB par other off (delta - j) lim n (rd far (off + j)) = true) →
  ∃ far' r, frontF xs ys other off delta n d lim par s k far = some (far', r) ∧ far'.length = far.length ∧ (∀ x ∈ far', -1 ≤ x ∧ x ≤ 100000000000) ∧ FrontOK xs ys other off delta n d lim par far' r
 | 0, k, far, hs, hk, hl, hb, hpv, hf, hm => by
  refine ⟨far, none, by rw [frontF], rfl, hb, ?_, ?_⟩
  ·exact fun j h1 h2 h3 => hf j h1 (by omega) h3
  ·exact fun j h1 h2 h3 => hm j h1 (by omega) h3
 | s + 1, k, far, hs, hk, hl, hb, hpv, hf, hm => by
  have hkd : k ≤ d := by omega
  have hpar : (d - k) % 2 = 0 := by omega
  have hB := begin_law hd hk hkd hpar hpv
  have hB1 := hB.1
  have hB2 := hB.2.1
  obtain ⟨g1, g2, g3⟩ := slideI_law xs ys hB1 hB2
  obtain ⟨hF, _⟩ := Lcs.far_of_begin hB g1 g2 g3
  have hle := far_le hF hkd
  have hok : okFar xs ys far other off k d = true := by
   unfold okFar
   rw [boundB_in hb, boundB_in hob]
   simp only [Bool.and_eq_true, decide_eq_true_eq, Bool.true_and, true_and]
   exact ⟨hB1, hB2, by omega, g1, by omega⟩
  rw [frontF, if_pos hok]
  generalize beginI far off k d = u at *
  generalize slideI xs ys k u = e at *
  have hb' := bound_set (i := (off + k).toNat) hb (x := e) (by omega) (by omega)
  by_cases hmet : metB par other off (delta - k) lim n e = true
  ·rw [if_pos hmet]
   exact ⟨_, _, rfl, by simp, hb', hk, hkd, hpar, hB, g1, g2, g3, hmet⟩
  ·rw [if_neg hmet]
   have hnew : ∀ j : Int, -d ≤ j → j < k + 2 → (d - j) % 2 = 0 → rd (far.set (off + k).toNat e) (off + j) = if j = k then e else rd far (off + j) := by
    intro j h1 h2 h3
    by_cases hjk : j = k
    ·subst hjk; rw [if_pos rfl]; exact rd_set_same (by omega) (by omega)
    ·rw [if_neg hjk]; exact rd_set_ne (by omega) (by omega) (by omega)
   have q1 : Prev xs ys off d (far.set (off + k).toNat e) := by
    refine ⟨fun h0 => ?_, fun h0 j j1 j2 j3 => ?_⟩
    ·rw [rd_set_ne (by omega) (by omega) (by omega)]; exact hpv.1 h0
    ·rw [rd_set_ne (by omega) (by omega) (by omega)]; exact hpv.2 h0 j j1 j2 j3
   have q2 : Fars xs ys off d (k + 2) (far.set (off + k).toNat e) := by
    intro j j1 j2 j3
    rw [hnew j j1 j2 j3]
    by_cases hjk : j = k
    ·rw [if_pos hjk, hjk]; exact hF
    ·rw [if_neg hjk]; exact hf j j1 (by omega) j3
   have q3 : ∀ j : Int, -d ≤ j → j < k + 2 → (d - j) % 2 = 0 → ¬ metB par other off (delta - j) lim n (rd (far.set (off + k).toNat e) (off + j)) = true := by
    intro j j1 j2 j3
    rw [hnew j j1 j2 j3]
    by_cases hjk : j = k
    ·rw [if_pos hjk, hjk]; exact hmet
    ·rw [if_neg hjk]; exact hm j j1 (by omega) j3
   obtain ⟨far', r, h1, h2, h3, h4⟩ := front_law hd hoff hdB hxl hob s (k + 2) (far.set (off + k).toNat e) (by omega) (by omega) (by rw [List.length_set]; exact hl) hb' q1 q2 q3
   exact ⟨far', r, h1, by rw [h2, List.length_set], h3, h4⟩
theorem tmod2_ne (x : Int) : (x.tmod 2 != 0) = true ↔ x % 2 ≠ 0 := by
 rw [bne_iff_ne]
 exact ⟨fun h g => h (Int.tmod_eq_zero_of_dvd (Int.dvd_of_emod_eq_zero g)), fun h g => h (Int.emod_eq_zero_of_dvd (Int.dvd_of_tmod_eq_zero g))⟩
theorem tmod2_eq (x : Int) : (x.tmod 2 == 0) = true ↔ x % 2 = 0 := by
 rw [beq_iff_eq]
 exact ⟨fun h => Int.emod_eq_zero_of_dvd (Int.dvd_of_tmod_eq_zero h), fun h => Int.tmod_eq_zero_of_dvd (Int.dvd_of_emod_eq_zero h)⟩
def MidOK (xs ys : List Int) (u v s : Int) : Prop :=
 0 ≤ u ∧ 0 ≤ v ∧ 0 ≤ s ∧ u + s ≤ xs.length ∧ v + s ≤ ys.length ∧ (∀ t, 0 ≤ t → t < s → rd xs (u + t) = rd ys (v + t)) ∧
 Lcs.lcs (xs.take u.toNat) (ys.take v.toNat) + s.toNat + Lcs.lcs (xs.drop (u + s).toNat) (ys.drop (v + s).toNat) = Lcs.lcs xs ys ∧ u + v < xs.length + ys.length ∧ 0 < u + v + 2 * s
theorem mid_of_met {xs ys : List Int} {d d' k u e t : Int} (hB : Lcs.Begin xs ys d k u) (h1 : u ≤ e) (h2 : ∀ t, u ≤ t → t < e → Lcs.Hit xs ys t (t - k)) (h3 : ¬ Lcs.Hit xs ys e (e - k))
  (hr : Lcs.Far xs.reverse ys.reverse d' ((xs.length : Int) - ys.length - k) t) (hdd : d + d' = Lcs.DD xs ys) (hm : (xs.length : Int) ≤ e + t) (hd : 0 < d) (hd' : 0 < d') : MidOK xs ys u (u - k) (e - u) := by
 obtain ⟨m1, m2, m3, m4, m5, m6, m7⟩ := Lcs.met hB h1 h2 h3 hr hdd hm
 have hl := Lcs.met_lcs m1 m2 h1 m3 m4 m5 m6 m7 hdd
 refine ⟨m1, m2, by omega, by omega, by omega, fun i hi0 hi1 => ?_, ?_, ?_, ?_⟩
 ·have := ((hit_iff (xs := xs) (ys := ys) (k := k) (t := u + i) (by omega) (by omega)).1 (h2 (u + i) (by omega) (by omega))).2.2
  rw [show u - k + i = u + i - k by omega]; exact this
 ·rw [show u + (e - u) = e by omega, show u - k + (e - u) = e - k by omega]; exact hl
 ·by_cases hc : u + (u - k) < xs.length + ys.length
  ·exact hc
  ·exfalso
   have e1 : u = xs.length := by omega
   have e2 : u - k = ys.length := by omega
   rw [e2, e1, Lcs.D0_all] at m5
   omega
 ·by_cases hc : 0 < u + (u - k) + 2 * (e - u)
  ·exact hc
  ·exfalso
   have e1 : e = 0 := by omega
   have e2 : e - k = 0 := by omega
   rw [e2, e1, Lcs.D0_zero] at m6
   omega
theorem MidOK_rev {xs ys : List Int} {u v s : Int} (h : MidOK xs.reverse ys.reverse u v s) : MidOK xs ys (xs.length - u - s) (ys.length - v - s) s := by
 unfold MidOK at h
 rw [List.length_reverse, List.length_reverse, Lcs.lcs_reverse] at h
 obtain ⟨h1, h2, h3, h4, h5, h6, h7, h8, h9⟩ := h
 refine ⟨by omega, by omega, h3, by omega, by omega, fun t t0 t1 => ?_, ?_, by omega, by omega⟩
 ·have := h6 (s - 1 - t) (by omega) (by omega)
  rw [rd_reverse _ _ (by omega) (by omega), rd_reverse _ _ (by omega) (by omega)] at this
  rw [show (xs.length : Int) - u - s + t = (xs.length : Int) - 1 - (u + (s - 1 - t)) by omega, show (ys.length : Int) - v - s + t = (ys.length : Int) - 1 - (v + (s - 1 - t)) by omega]
  exact this
 ·rw [List.take_reverse, List.take_reverse, List.drop_reverse, List.drop_reverse, Lcs.lcs_reverse, Lcs.lcs_reverse] at h7
  rw [show ((xs.length : Int) - u - s).toNat = xs.length - (u + s).toNat by omega, show ((ys.length : Int) - v - s).toNat = ys.length - (v + s).toNat by omega,
   show ((xs.length : Int) - u - s + s).toNat = xs.length - u.toNat by omega, show ((ys.length : Int) - v - s + s).toNat = ys.length - v.toNat by omega]
  omega
theorem mid_law {xs ys : List Int} {off : Int} (hoff : off = (xs.length : Int) + ys.length + 1) (hDD : 2 ≤ Lcs.DD xs ys) (hx : xs.length ≤ 4000000000) (hy : ys.length ≤ 4000000000) :
  ∀ (s : Nat) (d : Int) (fore rear : List Int), 0 ≤ d → s + d = xs.length + ys.length + 1 → 2 * d - 1 ≤ Lcs.DD xs ys → (fore.length : Int) = 2 * (xs.length + ys.length) + 3 → (rear.length : Int) = 2 * (xs.length + ys.length) + 3 →
  (∀ x ∈ fore, -1 ≤ x ∧ x ≤ 100000000000) → (∀ x ∈ rear, -1 ≤ x ∧ x ≤ 100000000000) → Prev xs ys off d fore → Prev xs.reverse ys.reverse off d rear →
  ∃ u v t, midF xs ys off ((xs.length : Int) - ys.length) xs.length ys.length s d fore rear = some (u, v, t) ∧ MidOK xs ys u v t
 | 0, d, fore, rear, hd, hs, hle, _, _, _, _, _, _ => by
  exfalso
  unfold Lcs.DD at hle
  omega
 | s + 1, d, fore, rear, hd, hs, hle, hlf, hlr, hbf, hbr, hpf, hpr => by
  have hpar : (Lcs.DD xs ys - ((xs.length : Int) - ys.length)) % 2 = 0 := by unfold Lcs.DD; omega
  rw [midF]
  obtain ⟨fore', r, e1, e2, e3, e4⟩ := front_law (xs := xs) (ys := ys) (other := rear) (off := off) (delta := (xs.length : Int) - ys.length) (n := xs.length) (d := d) (lim := d - 1) (par := ((xs.length : Int) - ys.length).tmod 2 != 0)
   hd (by omega) (by omega) (by omega) hbr (d + 1).toNat (-d) fore (by omega) (by omega) (by omega) hbf hpf (fun j j1 j2 => by omega) (fun j j1 j2 => by omega)
  rw [e1]
  cases r with
  | some q =>
   obtain ⟨u, e, k⟩ := q
   obtain ⟨k1, k2, k3, hB, g1, g2, g3, hm⟩ := e4
   obtain ⟨m1, m2, m3, m4, m5⟩ := metB_true hm
   have hodd := (tmod2_ne _).1 m1
   have hr := hpr.2 (by omega) ((xs.length : Int) - ys.length - k) (by omega) (by omega) (by omega)
   have hf := (Lcs.far_of_begin hB g1 g2 g3).1
   have hleast := Lcs.met_least hf hr m5
   exact ⟨u, u - k, e - u, rfl, mid_of_met hB g1 g2 g3 hr (by omega) m5 (by omega) (by omega)⟩
  | none =>
   obtain ⟨hF, hN⟩ := e4
   show ∃ u v t, midK2 _ _ _ _ = some (u, v, t) ∧ _
   obtain ⟨rear', r', f1, f2, f3, f4⟩ := front_law (xs := xs.reverse) (ys := ys.reverse) (other := fore') (off := off) (delta := (xs.length : Int) - ys.length) (n := xs.length) (d := d) (lim := d) (par := ((xs.length : Int) - ys.length).tmod 2 == 0)
    hd (by omega) (by omega) (by rw [List.length_reverse]; omega) e3 (d + 1).toNat (-d) rear (by omega) (by omega) (by omega) hbr hpr (fun j j1 j2 => by omega) (fun j j1 j2 => by omega)
   rw [f1]
   cases r' with
   | some q =>
    obtain ⟨u, e, k⟩ := q
    obtain ⟨k1, k2, k3, hB, g1, g2, g3, hm⟩ := f4
    obtain ⟨m1, m2, m3, m4, m5⟩ := metB_true hm
    have heven := (tmod2_eq _).1 m1
    have hr := hF ((xs.length : Int) - ys.length - k) (by omega) (by omega) (by omega)
    have hf := (Lcs.far_of_begin hB g1 g2 g3).1
    have hr2 : Lcs.Far xs.reverse.reverse ys.reverse.reverse d ((xs.reverse.length : Int) - ys.reverse.length - k) (rd fore' (off + ((xs.length : Int) - ys.length - k))) := by
     rw [List.reverse_reverse, List.reverse_reverse, List.length_reverse, List.length_reverse]; exact hr
    have hm2 : (xs.reverse.length : Int) ≤ e + rd fore' (off + ((xs.length : Int) - ys.length - k)) := by rw [List.length_reverse]; exact m5
    have hleast := Lcs.met_least hf hr2 hm2
    rw [Lcs.DD_reverse] at hleast
    have hmid := MidOK_rev (mid_of_met hB g1 g2 g3 hr2 (by rw [Lcs.DD_reverse]; omega) hm2 (by omega) (by omega))
    rw [show (xs.length : Int) - u - (e - u) = xs.length - e by omega, show (ys.length : Int) - (u - k) - (e - u) = ys.length - (e - k) by omega] at hmid
    exact ⟨_, _, _, rfl, hmid⟩
   | none =>
    obtain ⟨hF', hN'⟩ := f4
    show ∃ u v t, midF _ _ _ _ _ _ _ _ _ _ = some (u, v, t) ∧ _
    have hcase : 2 * (d + 1) - 1 ≤ Lcs.DD xs ys := by
     by_cases hodd : ((xs.length : Int) - ys.length) % 2 = 0
     ·have hne := Lcs.not_met (a := xs) (b := ys) hd hd (fun k => rd fore' (off + k)) (fun k => rd rear' (off + k)) (fun k k1 k2 k3 => hF k k1 (by omega) k3) (fun k k1 k2 k3 => hF' k k1 (by omega) k3) (fun k k1 k2 k3 k4 k5 => ?_)
      ·omega
      ·have hn := hN' ((xs.length : Int) - ys.length - k) k4 (by omega) (by omega)
       have hf := (hF k k1 (by omega) k3).1
       rcases metB_false hn with g | g | g | g | g
       ·rw [(tmod2_eq _).2 hodd] at g; cases g
       ·have := of_decide_eq_false g.2; omega
       ·have := of_decide_eq_false g.2.2; omega
       ·have := g.2.2.2
        rw [show off + ((xs.length : Int) - ys.length - ((xs.length : Int) - ys.length - k)) = off + k by omega] at this
        have := bne_eq_false_iff_eq.1 this
        omega
       ·have := of_decide_eq_false g.2.2.2.2
        rw [show off + ((xs.length : Int) - ys.length - ((xs.length : Int) - ys.length - k)) = off + k by omega] at this
        show rd fore' (off + k) + rd rear' (off + (xs.length - ys.length - k)) < xs.length
        omega
     ·by_cases h0 : d = 0
      ·omega
      ·have hpr2 := hpr.2 (by omega)
       have hne := Lcs.not_met (a := xs) (b := ys) (d := d) (d' := d - 1) hd (by omega) (fun k => rd fore' (off + k)) (fun k => rd rear (off + k)) (fun k k1 k2 k3 => hF k k1 (by omega) k3) (fun k k1 k2 k3 => hpr2 k (by omega) (by omega) (by omega)) (fun k k1 k2 k3 k4 k5 => ?_)
       ·omega
       ·have hn := hN k k1 (by omega) k3
        have hf := (hpr2 ((xs.length : Int) - ys.length - k) (by omega) (by omega) (by omega)).1
        rcases metB_false hn with g | g | g | g | g
        ·rw [(tmod2_ne _).2 hodd] at g; cases g
        ·have := of_decide_eq_false g.2; omega
        ·have := of_decide_eq_false g.2.2; omega
        ·have := bne_eq_false_iff_eq.1 g.2.2.2
         omega
        ·have := of_decide_eq_false g.2.2.2.2
         show rd fore' (off + k) + rd rear (off + (xs.length - ys.length - k)) < xs.length
         omega
    refine mid_law hoff hDD hx hy s (d + 1) fore' rear' (by omega) (by omega) hcase (by omega) (by omega) e3 f3 ⟨fun h => by omega, fun _ => ?_⟩ ⟨fun h => by omega, fun _ => ?_⟩
    ·rw [show d + 1 - 1 = d by omega]; exact hF
    ·rw [show d + 1 - 1 = d by omega]; exact hF'
theorem middle_law {xs ys : List Int} (hDD : 2 ≤ Lcs.DD xs ys) (hx : xs.length ≤ 4000000000) (hy : ys.length ≤ 4000000000) : ∃ u v t, middleF xs ys = some (u, v, t) ∧ MidOK xs ys u v t := by
 have hnew : rd (newRow (xs.length + ys.length)) ((xs.length + ys.length : Nat) + 1 + 1) = 0 := by
  have := rd_set_same (l := List.replicate (2 * (xs.length + ys.length) + 3) (-1)) (i := ((xs.length + ys.length : Nat) : Int) + 1 + 1) (x := 0) (by omega) (by rw [List.length_replicate]; omega)
  rw [show (((xs.length + ys.length : Nat) : Int) + 1 + 1).toNat = xs.length + ys.length + 2 by omega] at this
  exact this
 have hlen := newRow_length (xs.length + ys.length)
 have hP : ∀ a b : List Int, Prev a b (((xs.length + ys.length : Nat) : Int) + 1) 0 (newRow (xs.length + ys.length)) := fun a b => ⟨fun _ => hnew, fun h => by omega⟩
 exact mid_law (off := ((xs.length + ys.length : Nat) : Int) + 1) (by omega) hDD hx hy (xs.length + ys.length + 1) 0 _ _ (by omega) (by omega) (by omega) (by omega) (by omega) (newRow_bound _) (newRow_bound _) (hP _ _) (hP _ _)
end Go.Proofs.Ytfiamddinkokbaa.F
end

section
set_option linter.unusedVariables false
set_option linter.unusedSimpArgs false
namespace Go.Proofs.Ytfiamddinkokbaa.F
open Go.RowKit Go.Shelf Go.Proofs.YtfiamddinkokbaaW.PrintWords
set_option linter.unusedVariables false
set_option linter.unusedSimpArgs false
abbrev Rise (p q : SP) : Prop := p.f0 < q.f0 ∧ p.f1 < q.f1
def Chain (a b : List Int) (a0 a1 b0 b1 : Int) (r : List SP) : Prop := r.Pairwise Rise ∧ ∀ p ∈ r, a0 ≤ p.f0 ∧ p.f0 < a1 ∧ b0 ≤ p.f1 ∧ p.f1 < b1 ∧ rd a p.f0 = rd b p.f1
theorem Chain.nil (a b : List Int) (a0 a1 b0 b1 : Int) : Chain a b a0 a1 b0 b1 [] := ⟨List.Pairwise.nil, fun _ h => by cases h⟩
theorem Chain.append {a b : List Int} {a0 a1 a2 b0 b1 b2 : Int} {r r' : List SP} (h : Chain a b a0 a1 b0 b1 r) (g : Chain a b a1 a2 b1 b2 r') (h1 : a0 ≤ a1) (h2 : a1 ≤ a2) (h3 : b0 ≤ b1) (h4 : b1 ≤ b2) : Chain a b a0 a2 b0 b2 (r ++ r') := by
 refine ⟨List.pairwise_append.2 ⟨h.1, g.1, fun p hp q hq => ?_⟩, fun p hp => ?_⟩
 ·have := h.2 p hp
  have := g.2 q hq
  exact ⟨by omega, by omega⟩
 ·rcases List.mem_append.1 hp with hp | hp
  ·have := h.2 p hp
   exact ⟨this.1, by omega, this.2.2.1, by omega, this.2.2.2.2⟩
  ·have := g.2 p hp
   exact ⟨by omega, this.2.1, by omega, this.2.2.2.1, this.2.2.2.2⟩
theorem chain_diag {a b : List Int} (a0 b0 : Int) : ∀ (n : Nat), (∀ i : Int, 0 ≤ i → i < n → rd a (a0 + i) = rd b (b0 + i)) → Chain a b a0 (a0 + n) b0 (b0 + n) (diagP a0 b0 n)
 | 0, _ => Chain.nil _ _ _ _ _ _
 | n + 1, h => by
  rw [diagP_succ]
  refine (chain_diag a0 b0 n (fun i h0 h1 => h i h0 (by omega))).append (a1 := a0 + n) (b1 := b0 + n) ⟨List.pairwise_singleton _ _, fun p hp => ?_⟩ (by omega) (by omega) (by omega) (by omega)
  obtain rfl := List.mem_singleton.1 hp
  exact ⟨Int.le_refl _, by show a0 + (n : Int) < a0 + ((n + 1 : Nat) : Int); omega, Int.le_refl _, by show b0 + (n : Int) < b0 + ((n + 1 : Nat) : Int); omega, h n (by omega) (by omega)⟩
theorem pre_get {α : Type} [DecidableEq α] : ∀ (xs ys : List α) (i : Nat), i < pre xs ys → xs[i]? = ys[i]?
 | [], ys, i, h => by rw [pre_nil_left] at h; omega
 | x :: xs, [], i, h => by rw [pre_nil_right] at h; omega
 | x :: xs, y :: ys, i, h => by
  rw [pre] at h
  split at h
  ·rename_i e
   cases i with
   | zero => simp [e]
   | succ i => simpa using pre_get xs ys i (by omega)
  ·omega
theorem pre_drop {α : Type} [DecidableEq α] : ∀ (xs ys : List α), pre (xs.drop (pre xs ys)) (ys.drop (pre xs ys)) = 0
 | [], ys => by rw [List.drop_nil, pre_nil_left]
 | x :: xs, [] => by rw [List.drop_nil, pre_nil_right]
 | x :: xs, y :: ys => by
  rw [pre]
  split
  ·rw [List.drop_succ_cons, List.drop_succ_cons]; exact pre_drop xs ys
  ·rename_i e
   rw [List.drop_zero, List.drop_zero, pre, if_neg e]
theorem pre_take_zero {α : Type} [DecidableEq α] {xs ys : List α} (h : pre xs ys = 0) (i j : Nat) : pre (xs.take i) (ys.take j) = 0 := by
 cases xs with
 | nil => rw [List.take_nil, pre_nil_left]
 | cons x xs =>
  cases ys with
  | nil => rw [List.take_nil, pre_nil_right]
  | cons y ys =>
   rw [pre] at h
   split at h
   ·omega
   ·rename_i e
    cases i with
    | zero => rw [List.take_zero, pre_nil_left]
    | succ i =>
     cases j with
     | zero => rw [List.take_zero, pre_nil_right]
     | succ j => rw [List.take_succ_cons, List.take_succ_cons, pre, if_neg e]
theorem pre_comm {α : Type} [DecidableEq α] : ∀ (xs ys : List α), pre xs ys = pre ys xs
 | [], ys => by rw [pre_nil_left, pre_nil_right]
 | x :: xs, [] => by rw [pre_nil_left, pre_nil_right]
 | x :: xs, y :: ys => by
  rw [pre, pre, pre_comm xs ys]
  by_cases e : x = y
  ·rw [if_pos e, if_pos e.symm]
  ·rw [if_neg e, if_neg (Ne.symm e)]
theorem lcs_pre : ∀ (xs ys : List Int), Lcs.lcs xs ys = pre xs ys + Lcs.lcs (xs.drop (pre xs ys)) (ys.drop (pre xs ys))
 | [], ys => by rw [pre_nil_left]; simp
 | x :: xs, [] => by rw [pre_nil_right]; simp
 | x :: xs, y :: ys => by
  rw [pre]
  split
  ·rename_i e
   subst e
   rw [Lcs.lcs_cons_same, List.drop_succ_cons, List.drop_succ_cons, lcs_pre xs ys]
   omega
  ·simp
def inner {α : Type} (xs : List α) (p q : Nat) : List α := (xs.drop p).take (xs.length - p - q)
theorem lcs_ends (xs ys : List Int) : Lcs.lcs xs ys = endsN xs ys + Lcs.lcs (inner xs (endsN xs ys) (endsM xs ys)) (inner ys (endsN xs ys) (endsM xs ys)) + endsM xs ys := by
 have h1 := lcs_pre xs ys
 have h2 := lcs_pre (xs.drop (pre xs ys)).reverse (ys.drop (pre xs ys)).reverse
 rw [Lcs.lcs_reverse, List.drop_reverse, List.drop_reverse, Lcs.lcs_reverse, List.length_drop, List.length_drop] at h2
 unfold inner
 have e1 : endsN xs ys = pre xs ys := rfl
 have e2 : endsM xs ys = pre (xs.drop (pre xs ys)).reverse (ys.drop (pre xs ys)).reverse := rfl
 rw [e1, e2]
 omega
theorem inner_pre (xs ys : List Int) : pre (inner xs (endsN xs ys) (endsM xs ys)) (inner ys (endsN xs ys) (endsM xs ys)) = 0 := pre_take_zero (pre_drop xs ys) _ _
theorem inner_suf (xs ys : List Int) : pre (inner xs (endsN xs ys) (endsM xs ys)).reverse (inner ys (endsN xs ys) (endsM xs ys)).reverse = 0 := by
 have h := pre_drop (xs.drop (pre xs ys)).reverse (ys.drop (pre xs ys)).reverse
 rw [List.drop_reverse, List.drop_reverse, List.length_drop, List.length_drop] at h
 exact h
theorem sub_less {xs ys : List Int} (hs : ys.Sublist xs) (h1 : pre xs ys = 0) (h2 : pre xs.reverse ys.reverse = 0) (h3 : ys ≠ []) : ys.length + 2 ≤ xs.length := by
 cases ys with
 | nil => exact absurd rfl h3
 | cons y ys =>
  cases xs with
  | nil => cases hs
  | cons x xs =>
   rw [pre] at h1
   split at h1
   ·omega
   ·rename_i e
    have hs2 : (y :: ys).Sublist xs := by
     cases hs with
     | cons _ h => exact h
     | cons_cons _ h => exact absurd rfl e
    have hle := hs2.length_le
    by_cases hc : (y :: ys).length + 2 ≤ (x :: xs).length
    ·exact hc
    ·exfalso
     have he := hs2.eq_of_length (by simp only [List.length_cons] at *; omega)
     rw [← he, List.reverse_cons] at h2
     cases hr : (y :: ys).reverse with
     | nil => exact h3 (List.reverse_eq_nil_iff.1 hr)
     | cons z zs =>
      rw [hr, List.cons_append, pre, if_pos rfl] at h2
      omega
theorem DD_two {xs ys : List Int} (h1 : pre xs ys = 0) (h2 : pre xs.reverse ys.reverse = 0) (h3 : xs ≠ []) (h4 : ys ≠ []) : 2 ≤ Lcs.DD xs ys := by
 obtain ⟨c, c1, c2, c3⟩ := Lcs.lcs_ex xs ys
 have l1 := c1.length_le
 have l2 := c2.length_le
 unfold Lcs.DD
 by_cases hm : c.length = ys.length
 ·have := sub_less (c2.eq_of_length hm ▸ c1) h1 h2 h4
  omega
 ·by_cases hn : c.length = xs.length
  ·have := sub_less (c1.eq_of_length hn ▸ c2) (by rw [pre_comm]; exact h1) (by rw [pre_comm]; exact h2) h3
   omega
  ·omega
theorem piece_take {a : List Int} {l h : Int} (u : Int) (h0 : 0 ≤ l) (h1 : 0 ≤ u) (h2 : l + u ≤ h) : pieceI a l (l + u) = (pieceI a l h).take u.toNat := by
 unfold pieceI
 rw [List.drop_take, List.drop_take, List.take_take, show min u.toNat (h.toNat - l.toNat) = (l + u).toNat - l.toNat by omega]
theorem piece_drop {a : List Int} {l h : Int} (u : Int) (h0 : 0 ≤ l) (h1 : 0 ≤ u) : pieceI a (l + u) h = (pieceI a l h).drop u.toNat := by
 unfold pieceI
 rw [List.drop_drop, show (l + u).toNat = l.toNat + u.toNat by omega]
theorem inner_piece {a : List Int} {a0 a1 : Int} (p q : Nat) (h0 : 0 ≤ a0) (h1 : a0 ≤ a1) (h2 : a1 ≤ a.length) (hpq : (p : Int) + q ≤ a1 - a0) : pieceI a (a0 + p) (a1 - q) = inner (pieceI a a0 a1) p q := by
 have hl := pieceI_length h0 h1 h2
 unfold inner
 rw [piece_drop p h0 (by omega), show a1 - (q : Int) = a0 + (a1 - a0 - q) by omega, piece_take (h := a1) (a1 - a0 - q) h0 (by omega) (by omega), List.drop_take, Int.toNat_natCast, show (pieceI a a0 a1).length - p - q = (a1 - a0 - (q : Int)).toNat - p by omega]
theorem rd_get {xs ys : List Int} {i : Int} (h : xs[i.toNat]? = ys[i.toNat]?) : rd xs i = rd ys i := by
 unfold rd; rw [List.getD_eq_getElem?_getD, List.getD_eq_getElem?_getD, h]
theorem rd_drop (xs : List Int) (p : Nat) {w : Int} (h0 : 0 ≤ w) : rd (xs.drop p) w = rd xs (p + w) := by
 unfold rd; rw [List.getD_eq_getElem?_getD, List.getD_eq_getElem?_getD, List.getElem?_drop, show ((p : Int) + w).toNat = p + w.toNat by omega]
theorem ends_pre {xs ys : List Int} {i : Int} (h0 : 0 ≤ i) (h1 : i < endsN xs ys) : rd xs i = rd ys i := rd_get (pre_get xs ys i.toNat (by unfold endsN at h1; omega))
theorem ends_suf {xs ys : List Int} {i : Int} (h0 : 0 ≤ i) (h1 : i < endsM xs ys) : rd xs ((xs.length : Int) - endsM xs ys + i) = rd ys ((ys.length : Int) - endsM xs ys + i) := by
 have hle := ends_le xs ys
 have e1 : endsN xs ys = pre xs ys := rfl
 rw [e1] at hle
 have key : ∀ zs : List Int, pre xs ys + endsM xs ys ≤ zs.length → rd zs ((zs.length : Int) - endsM xs ys + i) = rd (zs.drop (pre xs ys)).reverse ((endsM xs ys : Int) - 1 - i) := by
  intro zs hz
  rw [← rd_rev (by omega) (by rw [List.length_drop]; omega), rd_drop _ _ (by rw [List.length_drop]; omega), List.length_drop, show ((pre xs ys : Nat) : Int) + (((zs.length - pre xs ys : Nat) : Int) - 1 - ((endsM xs ys : Int) - 1 - i)) = (zs.length : Int) - endsM xs ys + i by omega]
 rw [key xs hle.1, key ys hle.2]
 refine rd_get (pre_get _ _ _ ?_)
 unfold endsM at *
 omega
theorem find_law {a b : List Int} (ha : a.length ≤ 4000000000) (hb : b.length ≤ 4000000000) : ∀ (s : Nat) (a0 a1 b0 b1 : Int), 0 ≤ a0 → a0 ≤ a1 → a1 ≤ a.length → 0 ≤ b0 → b0 ≤ b1 → b1 ≤ b.length → (a1 - a0) + (b1 - b0) < s →
  ∃ r, findF a b s a0 a1 b0 b1 = some r ∧ Chain a b a0 a1 b0 b1 r ∧ r.length = Lcs.lcs (pieceI a a0 a1) (pieceI b b0 b1)
 | 0, a0, a1, b0, b1, h0, h1, h2, h3, h4, h5, hs => by omega
 | s + 1, a0, a1, b0, b1, h0, h1, h2, h3, h4, h5, hs => by
  rw [findF, if_pos ⟨h0, h1, h2, h3, h4, h5⟩]
  have hel := ends_le (pieceI a a0 a1) (pieceI b b0 b1)
  have hlx := pieceI_length h0 h1 h2
  have hly := pieceI_length h3 h4 h5
  have hlcs := lcs_ends (pieceI a a0 a1) (pieceI b b0 b1)
  have hpre := inner_pre (pieceI a a0 a1) (pieceI b b0 b1)
  have hsuf := inner_suf (pieceI a a0 a1) (pieceI b b0 b1)
  have hd1 : Chain a b a0 (a0 + (endsN (pieceI a a0 a1) (pieceI b b0 b1) : Nat)) b0 (b0 + (endsN (pieceI a a0 a1) (pieceI b b0 b1) : Nat)) (diagP a0 b0 (endsN (pieceI a a0 a1) (pieceI b b0 b1))) := by
   refine chain_diag a0 b0 _ (fun i i0 i1 => ?_)
   rw [pieceI_rd h0 h2 i i0 (by omega), pieceI_rd h3 h5 i i0 (by omega)]
   exact ends_pre i0 i1
  have hd2 : Chain a b (a1 - (endsM (pieceI a a0 a1) (pieceI b b0 b1) : Nat)) a1 (b1 - (endsM (pieceI a a0 a1) (pieceI b b0 b1) : Nat)) b1 (diagP (a1 - (endsM (pieceI a a0 a1) (pieceI b b0 b1) : Nat)) (b1 - (endsM (pieceI a a0 a1) (pieceI b b0 b1) : Nat)) (endsM (pieceI a a0 a1) (pieceI b b0 b1))) := by
   have := chain_diag (a := a) (b := b) (a1 - (endsM (pieceI a a0 a1) (pieceI b b0 b1) : Nat)) (b1 - (endsM (pieceI a a0 a1) (pieceI b b0 b1) : Nat)) (endsM (pieceI a a0 a1) (pieceI b b0 b1)) (fun i i0 i1 => ?_)
   ·rwa [show a1 - ((endsM (pieceI a a0 a1) (pieceI b b0 b1) : Nat) : Int) + ((endsM (pieceI a a0 a1) (pieceI b b0 b1) : Nat) : Int) = a1 by omega, show b1 - ((endsM (pieceI a a0 a1) (pieceI b b0 b1) : Nat) : Int) + ((endsM (pieceI a a0 a1) (pieceI b b0 b1) : Nat) : Int) = b1 by omega] at this
   ·have hq := ends_suf i0 i1
    rw [hlx, hly] at hq
    rw [show a1 - ((endsM (pieceI a a0 a1) (pieceI b b0 b1) : Nat) : Int) + i = a0 + (a1 - a0 - (endsM (pieceI a a0 a1) (pieceI b b0 b1) : Nat) + i) by omega, show b1 - ((endsM (pieceI a a0 a1) (pieceI b b0 b1) : Nat) : Int) + i = b0 + (b1 - b0 - (endsM (pieceI a a0 a1) (pieceI b b0 b1) : Nat) + i) by omega,
     pieceI_rd h0 h2 _ (by omega) (by omega), pieceI_rd h3 h5 _ (by omega) (by omega)]
    exact hq
  rw [← inner_piece _ _ h0 h1 h2 (by omega), ← inner_piece _ _ h3 h4 h5 (by omega)] at hlcs hpre hsuf
  generalize endsN (pieceI a a0 a1) (pieceI b b0 b1) = en at *
  generalize endsM (pieceI a a0 a1) (pieceI b b0 b1) = em at *
  have hmid : ∃ mid, (if a0 + (en : Int) < a1 - em ∧ b0 + (en : Int) < b1 - em then
    (middleF (pieceI a (a0 + en) (a1 - em)) (pieceI b (b0 + en) (b1 - em))).bind fun r =>
     if 0 ≤ r.1 ∧ 0 ≤ r.2.1 ∧ 0 ≤ r.2.2 ∧ a0 + en + r.1 + r.2.2 ≤ a1 ∧ b0 + en + r.2.1 + r.2.2 ≤ b1 then
      (findF a b s (a0 + en) (a0 + en + r.1) (b0 + en) (b0 + en + r.2.1)).bind fun l1 =>
       (findF a b s (a0 + en + r.1 + r.2.2) (a1 - em) (b0 + en + r.2.1 + r.2.2) (b1 - em)).bind fun l2 =>
        some (l1 ++ diagP (a0 + en + r.1) (b0 + en + r.2.1) r.2.2.toNat ++ l2)
     else none
   else some []) = some mid ∧ Chain a b (a0 + en) (a1 - em) (b0 + en) (b1 - em) mid ∧ mid.length = Lcs.lcs (pieceI a (a0 + en) (a1 - em)) (pieceI b (b0 + en) (b1 - em)) := by
   have hlx2 := pieceI_length (a := a) (lo := a0 + en) (hi := a1 - em) (by omega) (by omega) (by omega)
   have hly2 := pieceI_length (a := b) (lo := b0 + en) (hi := b1 - em) (by omega) (by omega) (by omega)
   by_cases hc : a0 + (en : Int) < a1 - em ∧ b0 + (en : Int) < b1 - em
   ·rw [if_pos hc]
    have hDD := DD_two hpre hsuf (fun e => by rw [e] at hlx2; simp at hlx2; omega) (fun e => by rw [e] at hly2; simp at hly2; omega)
    obtain ⟨u, v, t, e, m1, m2, m3, m4, m5, m6, m7, m8, m9⟩ := middle_law hDD (by omega) (by omega)
    obtain ⟨r1, e1, c1, l1⟩ := find_law ha hb s (a0 + en) (a0 + en + u) (b0 + en) (b0 + en + v) (by omega) (by omega) (by omega) (by omega) (by omega) (by omega) (by omega)
    obtain ⟨r2, e2, c2, l2⟩ := find_law ha hb s (a0 + en + u + t) (a1 - em) (b0 + en + v + t) (b1 - em) (by omega) (by omega) (by omega) (by omega) (by omega) (by omega) (by omega)
    rw [e]
    simp only [Option.bind_some]
    rw [if_pos ⟨m1, m2, m3, by omega, by omega⟩, e1]
    simp only [Option.bind_some]
    rw [e2]
    simp only [Option.bind_some]
    have hd := chain_diag (a := a) (b := b) (a0 + en + u) (b0 + en + v) t.toNat (fun i i0 i1 => by
     have := m6 i i0 (by omega)
     rw [← pieceI_rd (by omega) (by omega) _ (by omega) (by omega), ← pieceI_rd (by omega) (by omega) _ (by omega) (by omega)] at this
     rw [show a0 + (en : Int) + u + i = a0 + en + (u + i) by omega, show b0 + (en : Int) + v + i = b0 + en + (v + i) by omega]
     exact this)
    rw [show a0 + (en : Int) + u + ((t.toNat : Nat) : Int) = a0 + en + u + t by omega, show b0 + (en : Int) + v + ((t.toNat : Nat) : Int) = b0 + en + v + t by omega] at hd
    refine ⟨_, rfl, (c1.append hd (by omega) (by omega) (by omega) (by omega)).append c2 (by omega) (by omega) (by omega) (by omega), ?_⟩
    rw [piece_take (h := a1 - em) u (by omega) (by omega) (by omega), piece_take (h := b1 - em) v (by omega) (by omega) (by omega)] at l1
    rw [show a0 + (en : Int) + u + t = a0 + en + (u + t) by omega, show b0 + (en : Int) + v + t = b0 + en + (v + t) by omega, piece_drop (u + t) (by omega) (by omega), piece_drop (v + t) (by omega) (by omega)] at l2
    rw [List.length_append, List.length_append, diagP_length, l1, l2]
    exact m7
   ·rw [if_neg hc]
    refine ⟨[], rfl, Chain.nil _ _ _ _ _ _, ?_⟩
    by_cases hx : a0 + (en : Int) < a1 - em
    ·have : pieceI b (b0 + en) (b1 - em) = [] := List.eq_nil_of_length_eq_zero (by omega)
     rw [this, Lcs.lcs_nil_right]; rfl
    ·have : pieceI a (a0 + en) (a1 - em) = [] := List.eq_nil_of_length_eq_zero (by omega)
     rw [this, Lcs.lcs_nil_left]; rfl
  obtain ⟨mid, e, c, l⟩ := hmid
  rw [e]
  simp only [Option.bind_some]
  refine ⟨_, rfl, (hd1.append c (by omega) (by omega) (by omega) (by omega)).append hd2 (by omega) (by omega) (by omega) (by omega), ?_⟩
  rw [List.length_append, List.length_append, diagP_length, diagP_length, l, hlcs]
theorem piece_all (a : List Int) : pieceI a 0 a.length = a := by unfold pieceI; simp
theorem match_law (a b : List Int) (ha : a.length ≤ 4000000000) (hb : b.length ≤ 4000000000) : ∃ r, matchF a b = some r ∧ Chain a b 0 a.length 0 b.length r ∧ r.length = Lcs.lcs a b := by
 have := find_law ha hb (a.length + b.length + 1) 0 a.length 0 b.length (by omega) (by omega) (by omega) (by omega) (by omega) (by omega) (by omega)
 rw [piece_all, piece_all] at this
 exact this
end Go.Proofs.Ytfiamddinkokbaa.F
end

section
set_option linter.unusedVariables false
set_option linter.unusedSimpArgs false
namespace Go.Proofs.Ytfiamddinkokbaa.F
open Go.RowKit Go.Shelf Go.Proofs.YtfiamddinkokbaaW.PrintWords
set_option linter.unusedVariables false
set_option linter.unusedSimpArgs false
structure Tab (x : List Int) (base left : Int) : Prop where
 len : (x.length : Int) = base
 rng : ∀ i : Int, 0 ≤ i → i < base → -1 ≤ rd x i ∧ rd x i < left
 inc : ∀ i j : Int, 0 ≤ i → i < j → j < base → 0 ≤ rd x i → 0 ≤ rd x j → rd x i < rd x j
def Tog (x y : List Int) (base o a b i : Int) : Prop := o + i < base ∧ rd x (o + i) = a + i ∧ rd y (o + i) = b + i
def StabIs (x y : List Int) (base o a b n : Int) : Prop := 0 ≤ n ∧ (∀ i : Int, 0 ≤ i → i < n → Tog x y base o a b i) ∧ ¬ Tog x y base o a b n
def NextIs (x y : List Int) (base o a b tn : Int) : Prop := o ≤ tn ∧ tn ≤ base ∧ (∀ t : Int, o ≤ t → t < tn → rd x t < a ∨ rd y t < b) ∧ (tn < base → a ≤ rd x tn ∧ b ≤ rd y tn)
theorem stab_ex (x y : List Int) (base o a b : Int) : ∀ (m : Nat) (i : Int), 0 ≤ i → base - o - i ≤ m → (∀ j : Int, 0 ≤ j → j < i → Tog x y base o a b j) → ∃ n, StabIs x y base o a b n := by
 intro m
 induction m with
 | zero => exact fun i h0 h1 h2 => ⟨i, h0, h2, fun h => by have := h.1; omega⟩
 | succ m ih =>
  intro i h0 h1 h2
  by_cases ht : Tog x y base o a b i
  ·refine ih (i + 1) (by omega) (by omega) (fun j j0 j1 => ?_)
   by_cases hj : j = i
   ·rw [hj]; exact ht
   ·exact h2 j j0 (by omega)
  ·exact ⟨i, h0, h2, ht⟩
theorem next_ex (x y : List Int) (base o a b : Int) (ho : o ≤ base) : ∀ (m : Nat) (t : Int), o ≤ t → t ≤ base → base - t ≤ m → (∀ s : Int, o ≤ s → s < t → rd x s < a ∨ rd y s < b) → ∃ tn, NextIs x y base o a b tn := by
 intro m
 induction m with
 | zero => exact fun t h0 h1 h2 h3 => ⟨t, h0, h1, h3, fun h => by omega⟩
 | succ m ih =>
  intro t h0 h1 h2 h3
  by_cases hb : t = base
  ·exact ⟨t, h0, h1, h3, fun h => by omega⟩
  by_cases ht : rd x t < a ∨ rd y t < b
  ·refine ih (t + 1) (by omega) (by omega) (by omega) (fun s s0 s1 => ?_)
   by_cases hs : s = t
   ·rw [hs]; exact ht
   ·exact h3 s s0 (by omega)
  ·exact ⟨t, h0, h1, h3, fun _ => by omega⟩
inductive Sweep (x y : List Int) (base left right : Int) : Int → Int → Int → List SC → Prop
 | done {o a b : Int} : ¬ (o < base ∨ a < left ∨ b < right) → Sweep x y base left right o a b []
 | stab {o a b n : Int} {l : List SC} : (o < base ∨ a < left ∨ b < right) → StabIs x y base o a b n → 0 < n → Sweep x y base left right (o + n) (a + n) (b + n) l → Sweep x y base left right o a b (chunkC n o a b (o + n) (a + n) (b + n) :: l)
 | next {o a b tn : Int} {l : List SC} : (o < base ∨ a < left ∨ b < right) → StabIs x y base o a b 0 → NextIs x y base o a b tn → tn < base → Sweep x y base left right tn (rd x tn) (rd y tn) l → Sweep x y base left right o a b (chunkC 0 o a b tn (rd x tn) (rd y tn) :: l)
 | last {o a b : Int} {l : List SC} : (o < base ∨ a < left ∨ b < right) → StabIs x y base o a b 0 → NextIs x y base o a b base → Sweep x y base left right base left right l → Sweep x y base left right o a b (chunkC 0 o a b base left right :: l)
theorem stab_in {x y : List Int} {base left right o a b n : Int} (hx : Tab x base left) (hy : Tab y base right) (h0 : 0 ≤ o) (hs : StabIs x y base o a b n) (hn : 0 < n) : o + n ≤ base ∧ a + n ≤ left ∧ b + n ≤ right := by
 obtain ⟨t1, t2, t3⟩ := hs.2.1 (n - 1) (by omega) (by omega)
 have g1 := hx.rng (o + (n - 1)) (by omega) t1
 have g2 := hy.rng (o + (n - 1)) (by omega) t1
 omega
theorem next_on {x y : List Int} {base o a b tn : Int} (h0 : StabIs x y base o a b 0) (hn : NextIs x y base o a b tn) (ht : tn < base) : o < tn ∨ a < rd x tn ∨ b < rd y tn := by
 obtain ⟨n1, n2, n3, n4⟩ := hn
 have n4 := n4 ht
 by_cases hc : o < tn ∨ a < rd x tn ∨ b < rd y tn
 ·exact hc
 ·exfalso
  have e : tn = o := by omega
  subst e
  refine h0.2.2 ⟨by omega, ?_, ?_⟩
  ·rw [show tn + 0 = tn by omega]; omega
  ·rw [show tn + 0 = tn by omega]; omega
theorem sweep_ex {x y : List Int} {base left right : Int} (hx : Tab x base left) (hy : Tab y base right) : ∀ (m : Nat) (o a b : Int), 0 ≤ o → o ≤ base → 0 ≤ a → a ≤ left → 0 ≤ b → b ≤ right → (base - o) + (left - a) + (right - b) ≤ m → ∃ l, Sweep x y base left right o a b l := by
 intro m
 induction m with
 | zero => exact fun o a b h0 h1 h2 h3 h4 h5 h6 => ⟨[], .done (by omega)⟩
 | succ m ih =>
  intro o a b h0 h1 h2 h3 h4 h5 h6
  by_cases hc : o < base ∨ a < left ∨ b < right
  ·obtain ⟨n, hn⟩ := stab_ex x y base o a b (base - o).toNat 0 (by omega) (by omega) (fun j _ _ => by omega)
   by_cases hp : 0 < n
   ·obtain ⟨g1, g2, g3⟩ := stab_in hx hy h0 hn hp
    obtain ⟨l, hl⟩ := ih (o + n) (a + n) (b + n) (by omega) g1 (by omega) g2 (by omega) g3 (by omega)
    exact ⟨_, .stab hc hn hp hl⟩
   ·obtain rfl : n = 0 := by have := hn.1; omega
    obtain ⟨tn, ht⟩ := next_ex x y base o a b h1 (base - o).toNat o (by omega) h1 (by omega) (fun s _ _ => by omega)
    by_cases hb : tn < base
    ·have g := next_on hn ht hb
     have g1 := hx.rng tn (by have := ht.1; omega) hb
     have g2 := hy.rng tn (by have := ht.1; omega) hb
     have g3 := ht.2.2.2 hb
     have g4 := ht.1
     obtain ⟨l, hl⟩ := ih tn (rd x tn) (rd y tn) (by omega) (by omega) (by omega) (by omega) (by omega) (by omega) (by omega)
     exact ⟨_, .next hc hn ht hb hl⟩
    ·obtain rfl : tn = base := by have := ht.2.1; omega
     exact ⟨_, .last hc hn ht (.done (by omega))⟩
  ·exact ⟨[], .done hc⟩
structure ChunkIs (x y : List Int) (base left right o a b o' a' b' : Int) (c : SC) : Prop where
 sp1 : c.f1 = ⟨o, o'⟩
 sp2 : c.f2 = ⟨a, a'⟩
 sp3 : c.f3 = ⟨b, b'⟩
 le1 : o ≤ o' ∧ o' ≤ base
 le2 : a ≤ a' ∧ a' ≤ left
 le3 : b ≤ b' ∧ b' ≤ right
 some : o < o' ∨ a < a' ∨ b < b'
 st : c.f0 = true → o < o' ∧ a' - a = o' - o ∧ b' - b = o' - o ∧ ∀ i : Int, 0 ≤ i → i < o' - o → rd x (o + i) = a + i ∧ rd y (o + i) = b + i
 un : c.f0 = false → ¬ Tog x y base o a b 0
 nx : c.f0 = false → (o' = base ∧ a' = left ∧ b' = right) ∨ (Tog x y base o' a' b' 0)
 ns : c.f0 = true → ¬ Tog x y base o' a' b' 0
inductive Steps (x y : List Int) (base left right : Int) : Int → Int → Int → List SC → Prop
 | done : Steps x y base left right base left right []
 | cons {o a b o' a' b' : Int} {c : SC} {l : List SC} : 0 ≤ o → 0 ≤ a → 0 ≤ b → ChunkIs x y base left right o a b o' a' b' c → Steps x y base left right o' a' b' l → Steps x y base left right o a b (c :: l)
theorem steps_of {x y : List Int} {base left right : Int} (hx : Tab x base left) (hy : Tab y base right) : ∀ {o a b : Int} {l : List SC}, Sweep x y base left right o a b l → 0 ≤ o → o ≤ base → 0 ≤ a → a ≤ left → 0 ≤ b → b ≤ right → Steps x y base left right o a b l := by
 intro o a b l h
 induction h with
 | done h =>
  intro h0 h1 h2 h3 h4 h5
  rename_i o a b
  obtain rfl : o = base := by omega
  obtain rfl : a = left := by omega
  obtain rfl : b = right := by omega
  exact .done
 | stab h hs hp _ ih =>
  intro h0 h1 h2 h3 h4 h5
  rename_i o a b n l _
  obtain ⟨g1, g2, g3⟩ := stab_in hx hy h0 hs hp
  refine .cons h0 h2 h4 ⟨rfl, rfl, rfl, ⟨by omega, g1⟩, ⟨by omega, g2⟩, ⟨by omega, g3⟩, by omega, fun _ => ⟨by omega, by omega, by omega, fun i i0 i1 => ?_⟩, fun e => ?_, fun e => ?_, fun _ ht => ?_⟩ (ih (by omega) g1 (by omega) g2 (by omega) g3)
  ·have := hs.2.1 i i0 (by omega)
   exact ⟨this.2.1, this.2.2⟩
  ·exact absurd (decide_eq_true hp) (by rw [show decide (0 < n) = false from e]; decide)
  ·exact absurd (decide_eq_true hp) (by rw [show decide (0 < n) = false from e]; decide)
  ·obtain ⟨t1, t2, t3⟩ := ht
   refine hs.2.2 ⟨by omega, ?_, ?_⟩
   ·rw [show o + n = o + n + 0 by omega]; omega
   ·rw [show o + n = o + n + 0 by omega]; omega
 | next h hs hn hb _ ih =>
  intro h0 h1 h2 h3 h4 h5
  rename_i o a b tn l _
  have g := next_on hs hn hb
  have g1 := hx.rng tn (by have := hn.1; omega) hb
  have g2 := hy.rng tn (by have := hn.1; omega) hb
  have g3 := hn.2.2.2 hb
  have g4 := hn.1
  refine .cons h0 h2 h4 ⟨rfl, rfl, rfl, ⟨by omega, by omega⟩, ⟨by omega, by omega⟩, ⟨by omega, by omega⟩, g, (fun e => by simp [chunkC] at e), fun _ => hs.2.2, fun _ => .inr ⟨by omega, ?_, ?_⟩, (fun e => by simp [chunkC] at e)⟩ (ih (by omega) (by omega) (by omega) (by omega) (by omega) (by omega))
  ·rw [show tn + 0 = tn by omega]; omega
  ·rw [show tn + 0 = tn by omega]; omega
 | last h hs hn _ ih =>
  intro h0 h1 h2 h3 h4 h5
  rename_i o a b l _
  exact .cons h0 h2 h4 ⟨rfl, rfl, rfl, ⟨by omega, by omega⟩, ⟨by omega, by omega⟩, ⟨by omega, by omega⟩, by omega, (fun e => by simp [chunkC] at e), fun _ => hs.2.2, fun _ => .inl ⟨rfl, rfl, rfl⟩, (fun e => by simp [chunkC] at e)⟩ (ih (by omega) (by omega) (by omega) (by omega) (by omega) (by omega))
end Go.Proofs.Ytfiamddinkokbaa.F
end

section
set_option linter.unusedVariables false
set_option linter.unusedSimpArgs false
namespace Go.Proofs.Ytfiamddinkokbaa
open Go.RowKit Go.Proofs.YtfiamddinkokbaaW.PrintWords
set_option linter.unusedVariables false
def Ev {α : Type} (F : Nat → Option α) (v : α) : Prop := ∃ K, ∀ k, K ≤ k → F k = some v
namespace Ev
variable {α β : Type} {F G : Nat → Option α} {H : Nat → α → Option β} {v a : α} {b : β}
theorem get (h : Ev F v) : ∃ k, F k = some v := let ⟨K, hK⟩ := h; ⟨K, hK K (Nat.le_refl K)⟩
theorem val {x : α} (h : x = v) : Ev (fun _ => some x) v := ⟨0, fun _ _ => by rw [h]⟩
theorem const {o : Option α} (h : o = some v) : Ev (fun _ => o) v := ⟨0, fun _ _ => h⟩
theorem of_mono (hm : ∀ k, LeO (F k) (F (k + 1))) {k : Nat} (h : F k = some v) : Ev F v := ⟨k, fun j hj => by
 induction hj with
 | refl => exact h
 | step _ ih => exact hm _ _ ih⟩
theorem succ (h : Ev (fun k => F (k + 1)) v) : Ev F v := let ⟨K, hK⟩ := h; ⟨K + 1, fun k hk => by
 obtain ⟨j, rfl⟩ : ∃ j, k = j + 1 := ⟨k - 1, by omega⟩
 exact hK j (by omega)⟩
theorem pos {c : Prop} [Decidable c] (hc : c) (h : Ev F v) : Ev (fun k => if c then F k else G k) v := by simpa only [if_pos hc] using h
theorem neg {c : Prop} [Decidable c] (hc : ¬ c) (h : Ev G v) : Ev (fun k => if c then F k else G k) v := by simpa only [if_neg hc] using h
theorem bind {F : Nat → Option α} (h : Ev F a) (h' : Ev (fun k => H k a) b) : Ev (fun k => (F k).bind (H k)) b := by
 obtain ⟨K, hK⟩ := h
 obtain ⟨L, hL⟩ := h'
 refine ⟨max K L, fun k hk => ?_⟩
 show (F k).bind (H k) = some b
 rw [hK k (by omega)]
 exact hL k (by omega)
theorem cast (h : Ev F a) (e : a = v) : Ev F v := e ▸ h
theorem unique {v' : α} (h : Ev F v) (h' : Ev F v') : v = v' := by
 obtain ⟨K, hK⟩ := h
 obtain ⟨L, hL⟩ := h'
 have h1 := hK (max K L) (by omega)
 rw [hL (max K L) (by omega)] at h1
 exact (Option.some.inj h1).symm
end Ev
theorem wrap_in {n : Int} (h0 : -9223372036854775808 ≤ n) (h1 : n ≤ 9223372036854775807) : wrap64 n = n := by unfold wrap64; omega
theorem size_data (s : ByteArray) : s.data.toList.length = s.size := Array.length_toList
theorem bytes_toList (s : ByteArray) : s.toList = s.data.toList := by
 exact ByteArray.toList_eq s
theorem bytes_bt (s : ByteArray) (i : Int) (xs ys : List UInt8) (c : UInt8) (h : s.data.toList = xs ++ c :: ys) (hi : i = xs.length) : bt s i = (c.toNat : Int) := by
 have hs : xs.length < s.size := by rw [← size_data, h]; simp
 subst hi
 unfold bt
 rw [dif_pos (by simpa using hs)]
 have : s.data.toList[xs.length]? = some c := by rw [h]; simp
 have h2 := getElem?_byte s xs.length hs
 rw [this] at h2
 have h3 : s[xs.length] = c := (Option.some.inj h2).symm
 simp only [Int.toNat_natCast, h3]
theorem size_toB (l : List UInt8) : (toB l).size = l.length := by rw [← size_data, data_toB]
theorem bytes_ext {a b : ByteArray} (h : a.data.toList = b.data.toList) : a = b := by rw [← toB_data a, h, toB_data]
theorem rdOf_at {α : Type} (d : α) (l : List α) (i : Int) (xs ys : List α) (c : α) (h : l = xs ++ c :: ys) (hi : i = xs.length) : rdOf d l i = c := by
 subst h hi
 unfold rdOf
 simp [Int.toNat_natCast, List.getD_eq_getElem?_getD]
end Go.Proofs.Ytfiamddinkokbaa
end

section
set_option linter.unusedVariables false
set_option linter.unusedSimpArgs false
namespace Go.Proofs.Ytfiamddinkokbaa.F
open Go.RowKit Go.Proofs.YtfiamddinkokbaaW.PrintWords Go.Proofs.YtfiamddinkokbaaW.PrintLast Go.Proofs.YtfiamddinkokbaaW.PrintMore
set_option linter.unusedVariables false
set_option linter.unusedSimpArgs false
def runI (s : ByteArray) : Int := (runL s.data.toList : Nat)
def longI (l : List ByteArray) (n : Int) : Int := l.foldl (fun n s => mx n (runI s)) n
theorem lines_run (a : ByteArray) (hs : a.size ≤ 4000000000) : lines_Run.f a = some (runI a) := by unfold lines_Run.f; rw [if_pos hs]; rfl
theorem lines_split (a : ByteArray) (hs : a.size ≤ 4000000000) : lines_Split.f a = some (splitB a) := by unfold lines_Split.f; rw [if_pos hs]
def longAll (ls : List (List ByteArray)) (n : Int) : Int := ls.foldl (fun n l => longI l n) n
theorem lines_longest_in (ls : List (List ByteArray)) (hN : ls.length ≤ 4000000000) (hn : ∀ l ∈ ls, l.length ≤ 4000000000) (hs : ∀ l ∈ ls, ∀ s ∈ l, s.size ≤ 4000000000) :
  ∀ (rest done : List (List ByteArray)) (x i : Int), ls = done ++ rest → i = done.length → Ev (fun k => lines_Longest.l0 k x ls (ls.length : Int) i) (longAll rest x)
 | [], done, x, i, hl, ei => by
  refine Ev.succ ?_
  simp only [lines_Longest.l0]
  refine Ev.neg (by rw [hl]; simp; omega) (Ev.val rfl)
 | l :: rest, done, x, i, hl, ei => by
  have hsz : ls.length = done.length + (rest.length + 1) := by rw [hl]; simp
  have hw : wrap64 (i + 1) = i + 1 := wrap_in (by omega) (by omega)
  have hb : rd_L1 ls i = l := by
   unfold rd_L1; subst ei hl; simp [List.getD_eq_getElem?_getD]
  refine Ev.succ ?_
  simp only [lines_Longest.l0, hb]
  refine Ev.pos (by omega) (Ev.pos (by omega) (Ev.pos (by omega) ?_))
  have hm : l ∈ ls := by rw [hl]; simp
  have inner : ∀ (r d : List ByteArray) (x j : Int), l = d ++ r → j = d.length → Ev (fun k => lines_Longest.l1 k x ls (ls.length : Int) i l (l.length : Int) j) (longAll rest (longI r x)) := by
   intro r
   induction r with
   | nil =>
    intro d x j hd ej
    refine Ev.succ ?_
    simp only [lines_Longest.l1, hw]
    refine Ev.neg (by rw [hd]; simp; omega) ?_
    exact lines_longest_in ls hN hn hs rest (done ++ [l]) _ (i + 1) (by rw [hl]; simp) (by simp; omega)
   | cons s r ih =>
    intro d x j hd ej
    have hll := hn l hm
    have hsl : l.length = d.length + (r.length + 1) := by rw [hd]; simp
    have hwj : wrap64 (j + 1) = j + 1 := wrap_in (by omega) (by omega)
    have hbj : rdOf ByteArray.empty l j = s := rdOf_at _ l j d r s hd ej
    refine Ev.succ ?_
    simp only [lines_Longest.l1, hwj, hbj]
    refine Ev.pos (by omega) (Ev.pos (by omega) (Ev.pos (by omega) (Ev.bind (Ev.const (lines_run s (hs l hm s (by rw [hd]; simp)))) ?_)))
    exact ih (d ++ [s]) _ (j + 1) (by rw [hd]; simp) (by simp; omega)
  exact inner l [] x 0 rfl rfl
theorem lines_longest (ls : List (List ByteArray)) (hN : ls.length ≤ 4000000000) (hn : ∀ l ∈ ls, l.length ≤ 4000000000) (hs : ∀ l ∈ ls, ∀ s ∈ l, s.size ≤ 4000000000) :
  Ev (fun k => lines_Longest.f k ls) (longAll ls 0) := lines_longest_in ls hN hn hs ls [] 0 0 rfl rfl
theorem splitL_mem : ∀ (l : List UInt8) (x : List UInt8), x ∈ splitL l → x.length ≤ l.length := by
 intro l
 induction h : l.length using Nat.strongRecOn generalizing l with
 | ind n ih =>
  intro x hx
  by_cases hl : l = []
  ·subst hl; simp [splitL] at hx
  ·rw [splitL_next l hl] at hx
   have ht := congrArg List.length (take_drop_line l)
   rw [List.length_append] at ht
   rcases List.mem_cons.1 hx with rfl | hx
   ·omega
   ·have hpos : 0 < (takeLine l).length := by
     cases l with
     | nil => exact absurd rfl hl
     | cons c t => simp only [takeLine]; split <;> simp
    have := ih (dropLine l).length (by omega) (dropLine l) rfl x hx
    omega
theorem splitB_length (s : ByteArray) : (splitB s).length ≤ s.size := by
 unfold splitB; rw [List.length_map, ← size_data]; exact splitL_length_le _
theorem splitB_mem (s x : ByteArray) (h : x ∈ splitB s) : x.size ≤ s.size := by
 obtain ⟨y, hy, rfl⟩ := List.mem_map.1 h
 rw [size_toB, ← size_data]; exact splitL_mem _ _ hy
theorem runI_le (s : ByteArray) : runI s ≤ s.size := by unfold runI; have := runL_le s.data.toList; rw [size_data] at this; omega
theorem mx_cases (a b : Int) : mx a b = a ∧ b ≤ a ∨ mx a b = b ∧ a ≤ b := by unfold mx; split <;> omega
theorem longI_bound (M : Int) : ∀ (l : List ByteArray) (n : Int), n ≤ M → (∀ s ∈ l, runI s ≤ M) → n ≤ longI l n ∧ longI l n ≤ M
 | [], n, h, _ => ⟨Int.le_refl n, h⟩
 | s :: l, n, h, hs => by
  have h1 := hs s (by simp)
  have h2 : n ≤ mx n (runI s) ∧ mx n (runI s) ≤ M := by rcases mx_cases n (runI s) with ⟨e, _⟩ | ⟨e, _⟩ <;> omega
  have ih := longI_bound M l (mx n (runI s)) h2.2 (fun x hx => hs x (by simp [hx]))
  show n ≤ longI l (mx n (runI s)) ∧ longI l (mx n (runI s)) ≤ M
  omega
def textRun (s : ByteArray) : Int := longI (splitB s) 0
theorem textRun_bound (s : ByteArray) : 0 ≤ textRun s ∧ textRun s ≤ s.size :=
 longI_bound s.size (splitB s) 0 (by omega) (fun x hx => by have h1 := runI_le x; have h2 := splitB_mem s x hx; omega)
end Go.Proofs.Ytfiamddinkokbaa.F
end

section
set_option linter.unusedVariables false
set_option linter.unusedSimpArgs false
namespace Go.Proofs.Ytfiamddinkokbaa.F
open Go.RowKit Go.Proofs.YtfiamddinkokbaaW.PrintWords Go.Proofs.YtfiamddinkokbaaW.PrintLast Go.Proofs.YtfiamddinkokbaaW.PrintMore
set_option linter.unusedVariables false
set_option linter.unusedSimpArgs false
def runAll (l : List ByteArray) (n : Int) : Int := l.foldl (fun n s => mx n (textRun s)) n
theorem doc_run_in (ls : List ByteArray) (hN : ls.length ≤ 4000000000) (hs : ∀ s ∈ ls, s.size ≤ 4000000000) :
  ∀ (rest done : List ByteArray) (x i : Int), ls = done ++ rest → i = done.length → Ev (fun k => doc_run.l0 k x ls (ls.length : Int) i) (runAll rest x)
 | [], done, x, i, hl, ei => by
  refine Ev.succ ?_
  simp only [doc_run.l0]
  refine Ev.neg (by rw [hl]; simp; omega) (Ev.val rfl)
 | s :: rest, done, x, i, hl, ei => by
  have hsz : ls.length = done.length + (rest.length + 1) := by rw [hl]; simp
  have hw : wrap64 (i + 1) = i + 1 := wrap_in (by omega) (by omega)
  have hb : rdOf ByteArray.empty ls i = s := rdOf_at _ ls i done rest s hl ei
  have hS : s.size ≤ 4000000000 := hs s (by rw [hl]; simp)
  refine Ev.succ ?_
  simp only [doc_run.l0, hw, hb]
  refine Ev.pos (by omega) (Ev.pos (by omega) (Ev.pos (by omega) (Ev.bind (Ev.const (lines_split s hS)) (Ev.bind (lines_longest [splitB s] (by simp) ?_ ?_) ?_))))
  ·intro l hm; rw [List.mem_singleton.1 hm]; have := splitB_length s; omega
  ·intro l hm; rw [List.mem_singleton.1 hm]; intro x hx; have := splitB_mem s x hx; omega
  ·exact doc_run_in ls hN hs rest (done ++ [s]) _ (i + 1) (by rw [hl]; simp) (by simp; omega)
theorem ev_doc_run (ls : List ByteArray) (hN : ls.length ≤ 4000000000) (hs : ∀ s ∈ ls, s.size ≤ 4000000000) : Ev (fun k => doc_run.f k ls) (runAll ls 0) := doc_run_in ls hN hs ls [] 0 0 rfl rfl
theorem ev_doc_width (n : Int) (ls : List ByteArray) (hN : ls.length ≤ 4000000000) (hs : ∀ s ∈ ls, s.size ≤ 4000000000) : Ev (fun k => doc_Width.f k n ls) (mx n (wrap64 (runAll ls 0 + 1))) :=
 Ev.bind (ev_doc_run ls hN hs) (Ev.val rfl)
end Go.Proofs.Ytfiamddinkokbaa.F
end

section
set_option linter.unusedVariables false
set_option linter.unusedSimpArgs false
namespace Go.Proofs.Ytfiamddinkokbaa.F
open Go.RowKit Go.Proofs.YtfiamddinkokbaaW.PrintWords Go.Proofs.YtfiamddinkokbaaW.PrintLast Go.Proofs.YtfiamddinkokbaaW.PrintMore
set_option linter.unusedVariables false
set_option linter.unusedSimpArgs false
def to106 (x : S109) : S106 := ⟨⟨x.f0, x.f1, x.f2⟩, x.f3, x.f4, x.f5, x.f6, x.f7, x.f8⟩
def isTextP (x : S109) : Bool := x.f0.toList.isEmpty && (x.f1.toList.isEmpty && (x.f2.toList.isEmpty && (!x.f3 && (x.f5.toList.isEmpty && (x.f6.toList.isEmpty && (x.f7.toList.isEmpty && (!x.f8)))))))
def isNoneP (x : S109) : Bool := isTextP x && x.f4.toList.isEmpty
def joinP (z p : S109) : S109 := ⟨z.f0, z.f1, z.f2, z.f3, z.f4 ++ p.f4, z.f5, z.f6, z.f7, z.f8⟩
def ofStep (out : List S109) (p : S109) : List S109 :=
 if isNoneP p = true then out
 else match out.getLast? with
  | none => out ++ [p]
  | some z => if isTextP p = true ∧ isTextP z = true then out.dropLast ++ [joinP z p] else out ++ [p]
def ofP (l : List S109) : List S109 := l.foldl ofStep []
theorem ofStep_none (out : List S109) (p : S109) (h : isNoneP p = true) : ofStep out p = out := by unfold ofStep; rw [if_pos h]
theorem ofStep_nil (p : S109) (h : ¬ isNoneP p = true) : ofStep [] p = [p] := by unfold ofStep; rw [if_neg h]; rfl
theorem ofStep_join (u : List S109) (z p : S109) (h : ¬ isNoneP p = true) (hp : isTextP p = true) (hz : isTextP z = true) : ofStep (u ++ [z]) p = u ++ [joinP z p] := by
 unfold ofStep; rw [if_neg h, List.getLast?_concat]; simp [hp, hz]
theorem ofStep_put (u : List S109) (z p : S109) (h : ¬ isNoneP p = true) (hn : ¬ (isTextP p = true ∧ isTextP z = true)) : ofStep (u ++ [z]) p = u ++ [z] ++ [p] := by
 unfold ofStep; rw [if_neg h, List.getLast?_concat]; simp only [if_neg hn]
def textSum (l : List S109) : Nat := (l.map fun x => x.f4.size).sum
theorem empty_toList (s : ByteArray) : s.toList.isEmpty = true ↔ s.size = 0 := by
 rw [bytes_toList, List.isEmpty_iff, ← size_data]; exact ⟨fun h => by rw [h]; rfl, fun h => List.length_eq_zero_iff.1 h⟩
theorem step_bound (M : Nat) (out : List S109) (p : S109) (h : ∀ x ∈ out, x.f4.size ≤ M) : (ofStep out p).length ≤ out.length + 1 ∧ ∀ x ∈ ofStep out p, x.f4.size ≤ M + p.f4.size := by
 by_cases hn : isNoneP p = true
 ·rw [ofStep_none out p hn]; exact ⟨by omega, fun x hx => by have := h x hx; omega⟩
 ·rcases List.eq_nil_or_concat out with rfl | ⟨u0, z, rfl⟩
  ·rw [ofStep_nil p hn]; exact ⟨by simp, fun x hx => by rw [List.mem_singleton.1 hx]; omega⟩
  ·rw [List.concat_eq_append] at h ⊢
   by_cases hb : isTextP p = true ∧ isTextP z = true
   ·rw [ofStep_join u0 z p hn hb.1 hb.2]
    refine ⟨by simp, fun x hx => ?_⟩
    rcases List.mem_append.1 hx with hx | hx
    ·have := h x (List.mem_append_left _ hx); omega
    ·rw [List.mem_singleton.1 hx]
     have := h z (by simp)
     simp only [joinP, ByteArray.size_append]; omega
   ·rw [ofStep_put u0 z p hn hb]
    refine ⟨by simp, fun x hx => ?_⟩
    rcases List.mem_append.1 hx with hx | hx
    ·have := h x hx; omega
    ·rw [List.mem_singleton.1 hx]; omega
theorem rd106_at (l : List S106) (i : Int) (xs ys : List S106) (c : S106) (h : l = xs ++ c :: ys) (hi : i = xs.length) : rd_T106 l i = c := by
 subst h hi; unfold rd_T106; simp [List.getD_eq_getElem?_getD]
theorem rd106_map (l : List S109) (i : Int) (xs ys : List S109) (c : S109) (h : l = xs ++ c :: ys) (hi : i = xs.length) : rd_T106 (l.map to106) i = to106 c :=
 rd106_at _ i (xs.map to106) (ys.map to106) (to106 c) (by rw [h]; simp) (by simpa using hi)
theorem set_last {α : Type} (u : List α) (z z' : α) (i : Int) (hi : i = u.length) : (u ++ [z]).set i.toNat z' = u ++ [z'] := by
 subst hi; rw [Int.toNat_natCast, List.set_append_right _ _ (Nat.le_refl _)]; simp
theorem doc_of_in (l : List S109) (hn : l.length ≤ 4000000000) (ht : textSum l ≤ 4000000000) :
  ∀ (rest done out : List S109) (i : Int) (M : Nat), l = done ++ rest → i = done.length → out.length ≤ done.length → (∀ x ∈ out, x.f4.size ≤ M) → M + textSum rest ≤ 4000000000 →
  Ev (fun k => doc_Of.l0 k (out.map to106) (l.map to106) ((l.map to106).length : Int) i) ((rest.foldl ofStep out).map to106)
 | [], done, out, i, M, hl, ei, ho, hm, hM => by
  refine Ev.succ ?_
  simp only [doc_Of.l0]
  refine Ev.neg (by rw [hl]; simp; omega) (Ev.val rfl)
 | p :: rest, done, out, i, M, hl, ei, ho, hm, hM => by
  have hsz : l.length = done.length + (rest.length + 1) := by rw [hl]; simp
  have hw : wrap64 (i + 1) = i + 1 := wrap_in (by omega) (by omega)
  obtain ⟨hb1, hb2⟩ := step_bound M out p hm
  have hts : textSum (p :: rest) = p.f4.size + textSum rest := by simp [textSum]
  have again := doc_of_in l hn ht rest (done ++ [p]) (ofStep out p) (i + 1) (M + p.f4.size) (by rw [hl]; simp) (by simp; omega) (by simp; omega) hb2 (by omega)
  have hlm : ((l.map to106).length : Int) = l.length := by simp
  refine Ev.succ ?_
  simp only [doc_Of.l0, hw, rd106_map l i done rest p hl ei]
  refine Ev.pos (by rw [hlm]; omega) (Ev.pos (by omega) (Ev.pos (by rw [hlm]; omega) ?_))
  have hcond : (((to106 p).f0.f0.toList.isEmpty && ((to106 p).f0.f1.toList.isEmpty && (to106 p).f0.f2.toList.isEmpty)) && (!(to106 p).f1 && ((to106 p).f2.toList.isEmpty && ((to106 p).f3.toList.isEmpty && ((to106 p).f4.toList.isEmpty && ((to106 p).f5.toList.isEmpty && (!(to106 p).f6))))))) = isNoneP p := by
   unfold isNoneP isTextP to106
   cases p.f0.toList.isEmpty <;> cases p.f1.toList.isEmpty <;> cases p.f2.toList.isEmpty <;> cases p.f3 <;> cases p.f4.toList.isEmpty <;> cases p.f5.toList.isEmpty <;> cases p.f6.toList.isEmpty <;> cases p.f7.toList.isEmpty <;> cases p.f8 <;> rfl
  have htext : ∀ q : S109, doc_Part_isText.f (to106 q).f0.f0 (to106 q).f0.f1 (to106 q).f0.f2 (to106 q).f1 (to106 q).f2 (to106 q).f3 (to106 q).f4 (to106 q).f5 (to106 q).f6 = some (isTextP q) := by
   intro q
   unfold doc_Part_isText.f isTextP to106
   congr 1
   cases q.f0.toList.isEmpty <;> cases q.f1.toList.isEmpty <;> cases q.f2.toList.isEmpty <;> cases q.f3 <;> cases q.f5.toList.isEmpty <;> cases q.f6.toList.isEmpty <;> cases q.f7.toList.isEmpty <;> cases q.f8 <;> rfl
  simp only [hcond]
  by_cases hnone : isNoneP p = true
  ·refine Ev.pos hnone ?_
   rw [List.foldl_cons, ofStep_none out p hnone]
   rw [ofStep_none out p hnone] at again
   exact again
  ·refine Ev.neg hnone (Ev.bind (Ev.const (htext p)) ?_)
   have put : ofStep out p = out ++ [p] → Ev (fun k => if (out.map to106).length < 1099511627776 then doc_Of.l0 k (out.map to106 ++ [(⟨(⟨(to106 p).f0.f0, (to106 p).f0.f1, (to106 p).f0.f2⟩ : S84), (to106 p).f1, (to106 p).f2, (to106 p).f3, (to106 p).f4, (to106 p).f5, (to106 p).f6⟩ : S106)]) (l.map to106) ((l.map to106).length : Int) (i + 1) else none) (((p :: rest).foldl ofStep out).map to106) := by
    intro e
    refine Ev.pos (by simp; omega) ?_
    rw [List.foldl_cons, e]
    rw [e, List.map_append] at again
    exact again
   by_cases hp : isTextP p = true
   ·refine Ev.pos hp ?_
    rcases List.eq_nil_or_concat out with rfl | ⟨u, z, rfl⟩
    ·refine Ev.neg (by simp) (put (ofStep_nil p hnone))
    ·rw [List.concat_eq_append] at *
     have hul : (((u ++ [z]).map to106).length : Int) = u.length + 1 := by simp
     have hwl : wrap64 ((((u ++ [z]).map to106).length : Int) - 1) = u.length := by rw [hul, wrap_in (by simp at ho; omega) (by simp at ho; omega)]; omega
     have hrd : rd_T106 ((u ++ [z]).map to106) (u.length : Int) = to106 z := rd106_map (u ++ [z]) _ u [] z rfl rfl
     simp only [hwl, hrd]
     refine Ev.pos (by rw [hul]; omega) (Ev.pos (by omega) (Ev.pos (by rw [hul]; omega) (Ev.bind (Ev.const (htext z)) ?_)))
     by_cases hz : isTextP z = true
     ·refine Ev.pos hz (Ev.pos ?_ ?_)
      ·have := hm z (by simp)
       show z.f4.size + p.f4.size ≤ 9223372036854775807
       omega
      ·rw [List.foldl_cons]
       rw [ofStep_join u z p hnone hp hz] at again ⊢
       have e : ((u ++ [z]).map to106).set (u.length : Int).toNat (to106 (joinP z p)) = (u ++ [joinP z p]).map to106 := by
        rw [List.map_append, List.map_append, List.map_singleton, List.map_singleton, set_last _ _ _ _ (by simp)]
       rw [← e] at again
       exact again
     ·exact Ev.neg hz (put (ofStep_put u z p hnone (fun hc => hz hc.2)))
   ·refine Ev.neg hp ?_
    rcases List.eq_nil_or_concat out with rfl | ⟨u, z, rfl⟩
    ·exact put (ofStep_nil p hnone)
    ·rw [List.concat_eq_append] at *
     exact put (ofStep_put u z p hnone (fun hc => hp hc.1))
theorem ev_doc_of (l : List S109) (hn : l.length ≤ 4000000000) (ht : textSum l ≤ 4000000000) : Ev (fun k => doc_Of.f k (l.map to106)) ((ofP l).map to106) :=
 doc_of_in l hn ht l [] [] 0 0 rfl rfl (Nat.le_refl _) (fun x hx => (by cases hx)) (by omega)
def sizesP (x : S109) : Nat := x.f4.size + x.f5.size + x.f6.size + x.f7.size + x.f0.size + x.f1.size + x.f2.size
end Go.Proofs.Ytfiamddinkokbaa.F
end

section
set_option linter.unusedVariables false
set_option linter.unusedSimpArgs false
namespace Go.Proofs.Ytfiamddinkokbaa.F
open Go.RowKit Go.Proofs.YtfiamddinkokbaaW.PrintWords Go.Proofs.YtfiamddinkokbaaW.PrintLast Go.Proofs.YtfiamddinkokbaaW.PrintMore
set_option linter.unusedVariables false
set_option linter.unusedSimpArgs false
theorem nl_cases : ∀ p : List UInt8, (10 : UInt8) ∉ p ∨ ∃ q r, (10 : UInt8) ∉ q ∧ p = q ++ 10 :: r
 | [] => .inl (by simp)
 | c :: p => by
  by_cases hc : c = 10
  ·subst hc; exact .inr ⟨[], p, by simp, rfl⟩
  ·rcases nl_cases p with h | ⟨q, r, hq, rfl⟩
   ·left; simp [h]; exact fun e => hc e.symm
   ·right; refine ⟨c :: q, r, ?_, rfl⟩; simp [hq]; exact fun e => hc e.symm
theorem index_no : ∀ p : List UInt8, (10 : UInt8) ∉ p → Lib.indexByte p 10 = -1
 | [], _ => rfl
 | c :: p, h => by
  have hc : (c == 10) = false := by simpa using fun e : c = 10 => h (by simp [e])
  have ih := index_no p (fun e => h (by simp [e]))
  unfold Lib.indexByte; simp [hc, ih]
theorem index_at : ∀ q r : List UInt8, (10 : UInt8) ∉ q → Lib.indexByte (q ++ 10 :: r) 10 = q.length
 | [], r, _ => by simp [Lib.indexByte]
 | c :: q, r, h => by
  have hc : (c == 10) = false := by simpa using fun e : c = 10 => h (by simp [e])
  have ih := index_at q r (fun e => h (by simp [e]))
  rw [List.cons_append]
  unfold Lib.indexByte
  rw [ih]
  have : ¬ ((q.length : Int) = -1) := by omega
  simp [hc, this]
def endsL (p : List UInt8) : Bool := p.getLast? == some 10
theorem toList_inj {a b : ByteArray} (h : a.toList = b.toList) : a = b := bytes_ext (by rw [← bytes_toList, ← bytes_toList, h])
def catB (l : List ByteArray) : ByteArray := toB (l.flatMap fun s => s.data.toList)
theorem joinB_empty (l : List ByteArray) : joinB l ⟨#[]⟩ = catB l := by
 unfold joinB catB
 congr 1
 cases l with
 | nil => rfl
 | cons x r =>
  rw [List.map_cons, Lib.join_cons]
  simp [Lib.joinTail, List.flatMap]
  rfl
theorem lines_join (l : List ByteArray) (hn : l.length ≤ 4000000000) (hs : (catB l).size ≤ 4000000000) : lines_Join.f l = some (catB l) := by
 unfold lines_Join.f strings_Join.f
 rw [joinB_empty, if_pos ⟨by omega, by omega⟩]; rfl
theorem split_flat : ∀ p : List UInt8, (splitL p).flatten = p := by
 intro p
 induction h : p.length using Nat.strongRecOn generalizing p with
 | ind n ih =>
  by_cases hp : p = []
  ·subst hp; rfl
  ·rw [splitL_next p hp, List.flatten_cons]
   have ht := congrArg List.length (take_drop_line p)
   rw [List.length_append] at ht
   have hpos : 0 < (takeLine p).length := by
    cases p with
    | nil => exact absurd rfl hp
    | cons c t => simp only [takeLine]; split <;> simp
   rw [ih (dropLine p).length (by omega) _ rfl, take_drop_line]
theorem cat_split (s : ByteArray) : catB (splitB s) = s := by
 refine bytes_ext ?_
 unfold catB splitB
 rw [data_toB, List.flatMap_map]
 have : (splitL s.data.toList).flatMap (fun a => (toB a).data.toList) = (splitL s.data.toList).flatten := by
  simp [List.flatMap]
 rw [this, split_flat]
end Go.Proofs.Ytfiamddinkokbaa.F
end

section
set_option linter.unusedVariables false
set_option linter.unusedSimpArgs false
namespace Go.Proofs.Ytfiamddinkokbaa.F
open Go.RowKit Go.Proofs.YtfiamddinkokbaaW.PrintWords Go.Proofs.YtfiamddinkokbaaW.PrintLast Go.Proofs.YtfiamddinkokbaaW.PrintMore
set_option linter.unusedVariables false
set_option linter.unusedSimpArgs false
theorem lineless_iff (s : ByteArray) : lineless s = decide ((10 : UInt8) ∈ s.data.toList) := by
 unfold lineless
 rcases nl_cases s.data.toList with h | ⟨q, r, h, e⟩
 ·rw [index_no _ h]; simp [h]
 ·rw [e, index_at q r h]; simp
theorem toB_toList (l : List UInt8) : (toB l).toList = l := by rw [bytes_toList, data_toB]
theorem extract_data (s : ByteArray) (i j : Nat) : (s.extract i j).data.toList = (s.data.toList.take j).drop i := by
 rw [ByteArray.data_extract, Array.toList_extract]
 simp [List.extract_eq_take_drop, List.drop_take]
theorem extract_drop (s : ByteArray) (i : Nat) : s.extract i s.size = toB (s.data.toList.drop i) := bytes_ext (by rw [extract_data, data_toB, List.take_of_length_le (by rw [size_data]; omega)])
theorem sufx (s : ByteArray) (hs4 : s.size ≤ 4000000000) : strings_HasSuffix.f s ⟨#[10]⟩ = some (endsL s.data.toList) := by
 have h1 : (⟨#[10]⟩ : ByteArray).size = 1 := rfl
 unfold strings_HasSuffix.f stringslite_HasSuffix.f
 rw [h1]
 by_cases hs : 1 ≤ s.size
 ·have e1 : wrap64 ((s.size : Int) - ((1 : Nat) : Int)) = (s.size : Int) - 1 := wrap_in (by omega) (by omega)
  rw [if_pos (by omega), e1, if_pos (by omega), if_pos (by omega)]
  rw [show ((s.size : Int) - 1).toNat = s.size - 1 by omega, extract_drop, toB_toList, show (⟨#[10]⟩ : ByteArray).toList = [10] from by rw [bytes_toList]]
  unfold endsL
  rcases List.eq_nil_or_concat s.data.toList with h | ⟨u, z, h⟩
  ·exfalso; have := size_data s; rw [h] at this; simp at this; omega
  ·rw [List.concat_eq_append] at h
   have hz : s.size - 1 = u.length := by have := size_data s; rw [h] at this; simp at this; omega
   rw [h, hz, List.drop_append_of_le_length (Nat.le_refl _), List.drop_length, List.getLast?_concat]
   simp only [List.nil_append, Option.bind_some]
   by_cases e : z = 10 <;> simp [e]
 ·rw [if_neg (by omega)]
  have : s.data.toList = [] := List.length_eq_zero_iff.1 (by rw [size_data]; omega)
  rw [this]; rfl
end Go.Proofs.Ytfiamddinkokbaa.F
end

section
set_option linter.unusedVariables false
set_option linter.unusedSimpArgs false
namespace Go.Proofs.Ytfiamddinkokbaa.F
open Go.RowKit Go.Proofs.YtfiamddinkokbaaW.PrintWords Go.Proofs.YtfiamddinkokbaaW.PrintLast Go.Proofs.YtfiamddinkokbaaW.PrintMore
set_option linter.unusedVariables false
set_option linter.unusedSimpArgs false
end Go.Proofs.Ytfiamddinkokbaa.F
end

section
set_option linter.unusedVariables false
set_option linter.unusedSimpArgs false
namespace Go.Proofs.Ytfiamddinkokbaa.F
open Go.RowKit Go.Proofs.YtfiamddinkokbaaW.PrintWords Go.Proofs.YtfiamddinkokbaaW.PrintLast Go.Proofs.YtfiamddinkokbaaW.PrintMore
set_option linter.unusedVariables false
set_option linter.unusedSimpArgs false
def confP (x : S109) : Bool := x.f3 && (x.f4.toList.isEmpty && (x.f8 || (x.f6.toList.isEmpty && x.f1.toList.isEmpty)))
def oneP (x : S109) : Bool := isTextP x || confP x
def plainP (x : S109) : Bool := !lineless x.f0 && (!lineless x.f1 && !lineless x.f2)
def rightP : Bool → List S109 → Bool
 | _, [] => true
 | tx, x :: r => oneP x && (plainP x && ((!isTextP x || (!tx && (!x.f4.toList.isEmpty && (r.isEmpty || endsL x.f4.data.toList)))) && rightP (isTextP x) r))
theorem rightP_cons (tx : Bool) (x : S109) (r : List S109) : rightP tx (x :: r) = (oneP x && (plainP x && ((!isTextP x || (!tx && (!x.f4.toList.isEmpty && (r.isEmpty || endsL x.f4.data.toList)))) && rightP (isTextP x) r))) := by rw [rightP]
theorem isText_f (x : S109) : doc_Part_isText.f (to106 x).f0.f0 (to106 x).f0.f1 (to106 x).f0.f2 (to106 x).f1 (to106 x).f2 (to106 x).f3 (to106 x).f4 (to106 x).f5 (to106 x).f6 = some (isTextP x) := by
 unfold doc_Part_isText.f isTextP to106
 congr 1
 simp only [Bool.and_assoc]
theorem isEmpty_iff {l : List UInt8} : l.isEmpty = true ↔ l = [] := List.isEmpty_iff
theorem toList_empty (s : ByteArray) : (s.toList == ([] : List UInt8)) = s.toList.isEmpty := by
 cases s.toList <;> rfl
theorem isConf_f (x : S109) (hs : x.f6.size + x.f1.size ≤ 4000000000) : doc_Part_isConflict.f (to106 x).f0.f0 (to106 x).f0.f1 (to106 x).f0.f2 (to106 x).f1 (to106 x).f2 (to106 x).f3 (to106 x).f4 (to106 x).f5 (to106 x).f6 = some (confP x) := by
 unfold doc_Part_isConflict.f confP to106
 simp only
 cases x.f3 with
 | false => rw [if_neg (by simp)]; rfl
 | true =>
  rw [if_pos rfl]
  by_cases h4 : x.f4.toList = ([] : List UInt8)
  ·rw [if_pos h4, h4]
   cases x.f8 with
   | true => rw [if_pos rfl]; rfl
   | false =>
    rw [if_neg (by simp), if_pos (by omega), toList_empty, bytes_toList, ByteArray.data_append, Array.toList_append, bytes_toList, bytes_toList]
    cases x.f6.data.toList <;> rfl
  ·rw [if_neg h4]
   have : x.f4.toList.isEmpty = false := by cases hx : x.f4.toList with | nil => exact absurd hx h4 | cons a t => rfl
   rw [this]; rfl
theorem lineless_app (a b : ByteArray) : lineless (a ++ b) = (lineless a || lineless b) := by
 rw [lineless_iff, lineless_iff, lineless_iff, ByteArray.data_append, Array.toList_append]
 by_cases h1 : (10 : UInt8) ∈ a.data.toList <;> by_cases h2 : (10 : UInt8) ∈ b.data.toList <;> simp [h1, h2]
theorem labels_plain (a b c : ByteArray) (hs : a.size + b.size + c.size ≤ 4000000000) : doc_Labels_Plain.f a b c = some (!lineless a && (!lineless b && !lineless c)) := by
 unfold doc_Labels_Plain.f
 rw [if_pos (by omega), if_pos (by rw [ByteArray.size_append]; omega)]
 unfold strings_Contains.f
 rw [if_pos (show (⟨#[10]⟩ : ByteArray).size = 1 from rfl)]
 show some (!lineless (a ++ b ++ c)) = _
 rw [lineless_app, lineless_app]
 cases lineless a <;> cases lineless b <;> cases lineless c <;> rfl
theorem sizes_le {x : S109} {M : Nat} (h : sizesP x ≤ M) : x.f0.size ≤ M ∧ x.f1.size ≤ M ∧ x.f2.size ≤ M ∧ x.f4.size ≤ M ∧ x.f5.size ≤ M ∧ x.f6.size ≤ M ∧ x.f7.size ≤ M ∧ x.f0.size + x.f1.size + x.f2.size ≤ M ∧ x.f6.size + x.f1.size ≤ M := by
 unfold sizesP at h; omega
theorem doc_right_in (n : Int) : ∀ (l : List S109) (tx : Bool) (i : Int), i + l.length = n → (∀ x ∈ l, sizesP x ≤ 1000000000) → rightL n (l.map to106) tx i = some (rightP tx l)
 | [], tx, i, hi, hs => rfl
 | x :: rest, tx, i, hi, hs => by
  have hx := sizes_le (hs x (List.mem_cons_self ..))
  have next := fun tx' => doc_right_in n rest tx' (i + 1) (by simp at hi; omega) (fun y hy => hs y (List.mem_cons_of_mem _ hy))
  have e0 : isTextX (to106 x) = some (isTextP x) := isText_f x
  have e1 := isConf_f x (by omega)
  have e2 : doc_Labels_Plain.f (to106 x).f0.f0 (to106 x).f0.f1 (to106 x).f0.f2 = some (plainP x) := labels_plain _ _ _ (by show x.f0.size + x.f1.size + x.f2.size ≤ _; omega)
  have e3 : strings_HasSuffix.f (to106 x).f2 ⟨#[10]⟩ = some (endsL x.f4.data.toList) := sufx x.f4 (by omega)
  have e4 : (to106 x).f2 = x.f4 := rfl
  have c : (if isTextP x = true then some true else some (confP x)) = some (oneP x) := by unfold oneP; cases isTextP x <;> rfl
  rw [List.map, rightL, rightP, e0, Option.bind_some, e1, c, Option.bind_some, e2, e3, e4]
  cases oneP x with
  | false => rfl
  | true =>
   rw [if_pos rfl, Option.bind_some]
   cases plainP x with
   | false => rfl
   | true =>
    rw [if_pos rfl]
    cases ht : isTextP x with
    | false => rw [if_neg (by simp), next]; simp
    | true =>
     rw [if_pos rfl]
     cases tx with
     | true => rfl
     | false =>
      rw [if_neg (by simp)]
      by_cases he : x.f4.toList = ([] : List UInt8)
      ·rw [if_pos he, he]; rfl
      ·have he2 : x.f4.toList.isEmpty = false := by cases hx : x.f4.toList with | nil => exact absurd hx he | cons a t => rfl
       rw [if_neg he, he2, next]
       cases rest with
       | nil => rw [if_neg (by simp at hi; omega)]; rfl
       | cons y rest =>
        rw [if_pos (by simp at hi; omega), Option.bind_some]
        cases endsL x.f4.data.toList <;> simp
theorem ev_doc_right (l : List S109) (hn : l.length ≤ 4000000000) (hs : ∀ x ∈ l, sizesP x ≤ 1000000000) : Ev (fun k => doc_Doc_Right.f k (l.map to106)) (rightP false l) := by
 refine Ev.const ?_
 show rightF (l.map to106) = _
 unfold rightF
 rw [if_pos (by simp; omega), List.length_map]
 exact doc_right_in _ l false 0 (by simp) hs
end Go.Proofs.Ytfiamddinkokbaa.F
end

section
set_option linter.unusedVariables false
set_option linter.unusedSimpArgs false
namespace Go.Proofs.Ytfiamddinkokbaa.F
open Go.RowKit Go.Proofs.YtfiamddinkokbaaW.PrintWords Go.Proofs.YtfiamddinkokbaaW.PrintLast Go.Proofs.YtfiamddinkokbaaW.PrintMore
set_option linter.unusedVariables false
set_option linter.unusedSimpArgs false
def narrowerP (w : Int) (x : S109) : Bool := decide (textRun x.f4 < w) && (decide (textRun x.f5 < w) && (decide (textRun x.f6 < w) && decide (textRun x.f7 < w)))
def fitsP (l : List S109) (w : Int) : Bool := decide (1 ≤ w) && l.all (narrowerP w)
theorem texts_to (x : S109) : texts106 (to106 x) = [x.f4, x.f5, x.f6, x.f7] := rfl
theorem runAll_four (w : Int) (x : S109) : decide (w ≤ runAll [x.f4, x.f5, x.f6, x.f7] 0) = (decide (w ≤ 0) || !narrowerP w x) := by
 have h1 := (textRun_bound x.f4).1
 have h2 := (textRun_bound x.f5).1
 have h3 := (textRun_bound x.f6).1
 have h4 := (textRun_bound x.f7).1
 have e : runAll [x.f4, x.f5, x.f6, x.f7] 0 = mx (mx (mx (mx 0 (textRun x.f4)) (textRun x.f5)) (textRun x.f6)) (textRun x.f7) := rfl
 rw [e]
 unfold narrowerP
 have a1 := mx_cases 0 (textRun x.f4)
 have a2 := mx_cases (mx 0 (textRun x.f4)) (textRun x.f5)
 have a3 := mx_cases (mx (mx 0 (textRun x.f4)) (textRun x.f5)) (textRun x.f6)
 have a4 := mx_cases (mx (mx (mx 0 (textRun x.f4)) (textRun x.f5)) (textRun x.f6)) (textRun x.f7)
 rw [Bool.eq_iff_iff]
 simp only [decide_eq_true_eq, Bool.or_eq_true, Bool.not_eq_true', Bool.and_eq_false_iff, decide_eq_false_iff_not]
 omega
theorem fits_rounds (w : Int) : ∀ (l : List S109), (∀ x ∈ l, sizesP x ≤ 1000000000) → ∃ K, ∀ k, K ≤ k → fitsOk k (l.map to106) = true ∧ (l.map to106).any (wide k w) = l.any (fun x => decide (w ≤ runAll [x.f4, x.f5, x.f6, x.f7] 0))
 | [], _ => ⟨0, fun k _ => ⟨rfl, rfl⟩⟩
 | x :: l, hs => by
  obtain ⟨K, hK⟩ := fits_rounds w l (fun y hy => hs y (by simp [hy]))
  have hx := sizes_le (hs x (by simp))
  obtain ⟨L, hL⟩ := ev_doc_run [x.f4, x.f5, x.f6, x.f7] (by simp) (by intro s hm; simp at hm; rcases hm with rfl | rfl | rfl | rfl <;> omega)
  refine ⟨max K L, fun k hk => ?_⟩
  obtain ⟨h1, h2⟩ := hK k (by omega)
  have h3 : doc_run.f k [x.f4, x.f5, x.f6, x.f7] = some (runAll [x.f4, x.f5, x.f6, x.f7] 0) := hL k (by omega)
  simp only [List.map_cons, List.any_cons]
  refine ⟨?_, ?_⟩
  ·unfold fitsOk at h1 ⊢
   rw [List.all_cons, h1, texts_to, h3]; rfl
  ·rw [h2]
   unfold wide widest
   rw [texts_to, h3]; rfl
theorem any_all (w : Int) (h1 : 1 ≤ w) : ∀ l : List S109, (!l.any (fun x => decide (w ≤ runAll [x.f4, x.f5, x.f6, x.f7] 0))) = l.all (narrowerP w)
 | [] => rfl
 | x :: l => by
  rw [List.any_cons, List.all_cons, Bool.not_or, any_all w h1 l, runAll_four]
  rw [decide_eq_false (show ¬ w ≤ 0 by omega)]
  simp
theorem ev_doc_fits (l : List S109) (w : Int) (hs : ∀ x ∈ l, sizesP x ≤ 1000000000) : Ev (fun k => doc_Doc_Fits.f k (l.map to106) w) (fitsP l w) := by
 obtain ⟨K, hK⟩ := fits_rounds w l hs
 refine ⟨K, fun k hk => ?_⟩
 obtain ⟨h1, h2⟩ := hK k hk
 show fitsF k (l.map to106) w = _
 unfold fitsF fitsP
 by_cases hw : 1 ≤ w
 ·rw [if_pos hw, if_pos h1, h2, any_all w hw, decide_eq_true hw, Bool.true_and]
 ·rw [if_neg hw, decide_eq_false hw, Bool.false_and]
def printP (l : List S109) (w : Int) : ByteArray × Int :=
 if 1 ≤ w ∧ w ≤ 1073741824 then (if rightP false l = true then (if fitsP l w = true then (toB (printL w (l.map to106)), 0) else (⟨#[]⟩, 4)) else (⟨#[]⟩, 11)) else (⟨#[]⟩, 4)
theorem printP_in {l : List S109} {w : Int} (h1 : 1 ≤ w) (h2 : w ≤ 1073741824) : printP l w = (if rightP false l = true then (if fitsP l w = true then (toB (printL w (l.map to106)), 0) else (⟨#[]⟩, 4)) else (⟨#[]⟩, 11)) := if_pos ⟨h1, h2⟩
theorem printP_out {l : List S109} {w : Int} (h : ¬ (1 ≤ w ∧ w ≤ 1073741824)) : printP l w = (⟨#[]⟩, 4) := if_neg h
theorem okPart_to (x : S109) (h : sizesP x ≤ 1000000000) : okPart (to106 x) = true := by
 have hx := sizes_le h
 unfold okPart
 have e1 : (to106 x).f3 = x.f5 := rfl
 have e2 : (to106 x).f4 = x.f6 := rfl
 have e3 : (to106 x).f5 = x.f7 := rfl
 rw [e1, e2, e3, sufx x.f5 (by omega), sufx x.f6 (by omega), sufx x.f7 (by omega)]
 simp only [Bool.and_eq_true, decide_eq_true_eq]
 exact ⟨by show x.f0.size ≤ _; omega, by show x.f1.size ≤ _; omega, by show x.f2.size ≤ _; omega, by show x.f4.size ≤ _; omega, by omega, by omega, by omega, rfl, rfl, rfl⟩
theorem ev_mark_print (l : List S109) (w : Int) (hn : l.length ≤ 2000) (hs : ∀ x ∈ l, sizesP x ≤ 1000000000) : Ev (fun k => mark_Print.f k (l.map to106) w) (printP l w) := by
 show Ev (fun k => printF k (l.map to106) w) (printP l w)
 unfold printF mark_wide.f
 by_cases h1 : w ≥ 1
 ·rw [if_pos h1]
  by_cases h2 : w ≤ 1073741824
  ·rw [decide_eq_true h2, printP_in h1 h2]
   refine Ev.bind (Ev.const rfl) (Ev.pos rfl (Ev.bind (ev_doc_right l (by omega) hs) ?_))
   have hok : (l.map to106).all okPart = true := by
    refine List.all_eq_true.2 (fun y hy => ?_)
    obtain ⟨x, hx, rfl⟩ := List.mem_map.1 hy
    exact okPart_to x (hs x hx)
   by_cases h3 : rightP false l = true
   ·refine Ev.cast (Ev.pos h3 (Ev.bind (ev_doc_fits l w hs) ?_)) (if_pos h3).symm
    by_cases h4 : fitsP l w = true
    ·exact Ev.cast (Ev.pos h4 (Ev.pos ⟨hok, by rw [List.length_map]; exact hn, by omega, h2⟩ (Ev.val rfl))) (if_pos h4).symm
    ·exact Ev.cast (Ev.neg h4 (Ev.val rfl)) (if_neg h4).symm
   ·exact Ev.cast (Ev.neg h3 (Ev.val rfl)) (if_neg h3).symm
  ·rw [decide_eq_false h2, printP_out (fun h => h2 h.2)]
   exact Ev.bind (Ev.const rfl) (Ev.neg (by simp) (Ev.val rfl))
 ·rw [if_neg h1, printP_out (fun h => h1 h.1)]
  exact Ev.bind (Ev.const rfl) (Ev.neg (by simp) (Ev.val rfl))
end Go.Proofs.Ytfiamddinkokbaa.F
end

section
set_option linter.unusedVariables false
set_option linter.unusedSimpArgs false
namespace Go.Proofs.Ytfiamddinkokbaa.F
open Go.RowKit Go.Shelf Go.Proofs.YtfiamddinkokbaaW.PrintWords
set_option linter.unusedVariables false
set_option linter.unusedSimpArgs false
abbrev SSp := S89
abbrev RP := S109
def spanL {α : Type} (s : SSp) (l : List α) : List α := if s.f0 < 0 ∨ (l.length : Int) < s.f1 ∨ s.f1 < s.f0 then [] else (l.take s.f1.toNat).drop s.f0.toNat
def cutL' {α : Type} (i j : Int) (l : List α) : List α := (l.take j.toNat).drop i.toNat
theorem spanL_in {α : Type} {i j : Int} {l : List α} (h0 : 0 ≤ i) (h1 : i ≤ j) (h2 : j ≤ l.length) : spanL ⟨i, j⟩ l = cutL' i j l := by
 unfold spanL cutL'
 rw [if_neg (by show ¬ (i < 0 ∨ (l.length : Int) < j ∨ j < i); omega)]
def clsI (c : SC) (B L R : List ByteArray) : Int :=
 if c.f0 = true then 0 else if spanL c.f1 B = spanL c.f2 L then 2 else if spanL c.f1 B = spanL c.f3 R then 1 else if spanL c.f2 L = spanL c.f3 R then 3 else 4
def textR (s : ByteArray) : RP := ⟨⟨#[]⟩, ⟨#[]⟩, ⟨#[]⟩, false, s, ⟨#[]⟩, ⟨#[]⟩, ⟨#[]⟩, false⟩
def hoistN (st : Int) (l r : List ByteArray) : Nat := if st = 2 then endsN l r else 0
def hoistM (st : Int) (l r : List ByteArray) : Nat := if st = 2 then endsM l r else 0
def midL (xs : List ByteArray) (n m : Nat) : List ByteArray := (xs.take (xs.length - m)).drop n
def hunkR (st : Int) (g0 g1 g2 : ByteArray) (b l r : List ByteArray) : RP :=
 ⟨g0, if st = 0 then ⟨#[]⟩ else g1, g2, true, ⟨#[]⟩, catB (midL l (hoistN st l r) (hoistM st l r)), if st = 0 then ⟨#[]⟩ else catB b, catB (midL r (hoistN st l r) (hoistM st l r)), decide (st ≠ 0)⟩
def pieceR (st fv : Int) (g0 g1 g2 : ByteArray) (k : Int) (b l r : List ByteArray) : List RP :=
 if k = 0 then [textR (catB b)]
 else if k = 1 ∨ k = 3 ∨ (k = 4 ∧ fv = 1) then [textR (catB l)]
 else if k = 2 ∨ fv = 3 then [textR (catB r)]
 else [textR (catB (l.take (hoistN st l r))), hunkR st g0 g1 g2 b l r, textR (catB (l.drop (l.length - hoistM st l r)))]
def partsR (st fv : Int) (g0 g1 g2 : ByteArray) (B L R : List ByteArray) (c : SC) : List RP := pieceR st fv g0 g1 g2 (clsI c B L R) (spanL c.f1 B) (spanL c.f2 L) (spanL c.f3 R)
def docB (st fv : Int) (g0 g1 g2 : ByteArray) (B L R : List ByteArray) (cs : List SC) : List RP := ofP (cs.flatMap (partsR st fv g0 g1 g2 B L R))
def countB (B L R : List ByteArray) (cs : List SC) : Int := ((cs.filter (fun c => decide (clsI c B L R = 4))).length : Nat)
def TabOf (x : List Int) (B L : List ByteArray) : Prop := Tab x B.length L.length ∧ ∀ i : Int, 0 ≤ i → i < B.length → 0 ≤ rd x i → B[i.toNat]? = L[(rd x i).toNat]?
theorem cutL'_length {α : Type} {i j : Int} {l : List α} (h0 : 0 ≤ i) (h1 : i ≤ j) (h2 : j ≤ l.length) : ((cutL' i j l).length : Int) = j - i := by
 unfold cutL'; rw [List.length_drop, List.length_take]; omega
theorem cutL'_get {α : Type} {i j : Int} {l : List α} (h0 : 0 ≤ i) (k : Nat) (hk : k < j - i) : (cutL' i j l)[k]? = l[(i + k).toNat]? := by
 unfold cutL'; rw [List.getElem?_drop, List.getElem?_take_of_lt (by omega), show (i + (k : Int)).toNat = i.toNat + k by omega]
theorem cut_same {x : List Int} {B L : List ByteArray} (h : TabOf x B L) {o o' a a' : Int} (h0 : 0 ≤ o) (h1 : o ≤ o') (h2 : o' ≤ B.length) (g0 : 0 ≤ a) (g1 : a ≤ a') (g2 : a' ≤ L.length) (he : a' - a = o' - o) (hs : ∀ i : Int, 0 ≤ i → i < o' - o → rd x (o + i) = a + i) : cutL' o o' B = cutL' a a' L := by
 refine List.ext_getElem? (fun k => ?_)
 have l1 := cutL'_length (l := B) h0 h1 h2
 have l2 := cutL'_length (l := L) g0 g1 g2
 by_cases hk : (k : Int) < o' - o
 ·rw [cutL'_get h0 k hk, cutL'_get g0 k (by omega)]
  have := h.2 (o + k) (by omega) (by omega)
  rw [hs k (by omega) hk] at this
  exact this (by omega)
 ·rw [List.getElem?_eq_none (by omega), List.getElem?_eq_none (by omega)]
theorem cut_join {α : Type} {i j k : Int} {l : List α} (h0 : 0 ≤ i) (h1 : i ≤ j) (h2 : j ≤ k) (h3 : k ≤ l.length) : cutL' i j l ++ cutL' j k l = cutL' i k l := by
 unfold cutL'
 rw [show l.take j.toNat = (l.take k.toNat).take j.toNat by rw [List.take_take, Nat.min_eq_left (by omega)]]
 have hl : (l.take k.toNat).length = k.toNat := by rw [List.length_take]; omega
 generalize l.take k.toNat = t at *
 have e : t.drop j.toNat = (t.drop i.toNat).drop (j.toNat - i.toNat) := by rw [List.drop_drop, show i.toNat + (j.toNat - i.toNat) = j.toNat by omega]
 rw [List.drop_take, e, List.take_append_drop]
theorem cut_all {α : Type} (l : List α) : cutL' 0 l.length l = l := by unfold cutL'; simp
theorem steps_spans {x y : List Int} {B L R : List ByteArray} : ∀ {o a b : Int} {cs : List SC}, Steps x y B.length L.length R.length o a b cs →
  cs.flatMap (fun c => spanL c.f1 B) = cutL' o B.length B ∧ cs.flatMap (fun c => spanL c.f2 L) = cutL' a L.length L ∧ cs.flatMap (fun c => spanL c.f3 R) = cutL' b R.length R := by
 intro o a b cs h
 have nil : ∀ {α : Type} (l : List α), cutL' l.length l.length l = [] := fun l => by unfold cutL'; simp
 induction h with
 | done => exact ⟨(nil B).symm, (nil L).symm, (nil R).symm⟩
 | cons h0 h1 h2 hc _ ih =>
  rename_i o a b o' a' b' c l _
  have l1 := hc.le1
  have l2 := hc.le2
  have l3 := hc.le3
  rw [List.flatMap_cons, List.flatMap_cons, List.flatMap_cons, ih.1, ih.2.1, ih.2.2, hc.sp1, hc.sp2, hc.sp3, spanL_in h0 l1.1 l1.2, spanL_in h1 l2.1 l2.2, spanL_in h2 l3.1 l3.2]
  exact ⟨cut_join h0 l1.1 l1.2 (by omega), cut_join h1 l2.1 l2.2 (by omega), cut_join h2 l3.1 l3.2 (by omega)⟩
theorem chunk_stable {x y : List Int} {B L R : List ByteArray} {o a b o' a' b' : Int} {c : SC} (hx : TabOf x B L) (hy : TabOf y B R) (h0 : 0 ≤ o) (h1 : 0 ≤ a) (h2 : 0 ≤ b) (hc : ChunkIs x y B.length L.length R.length o a b o' a' b' c) (hs : c.f0 = true) :
  spanL c.f1 B = spanL c.f2 L ∧ spanL c.f1 B = spanL c.f3 R := by
 have l1 := hc.le1
 have l2 := hc.le2
 have l3 := hc.le3
 obtain ⟨s1, s2, s3, s4⟩ := hc.st hs
 rw [hc.sp1, hc.sp2, hc.sp3, spanL_in h0 l1.1 l1.2, spanL_in h1 l2.1 l2.2, spanL_in h2 l3.1 l3.2]
 exact ⟨cut_same hx h0 l1.1 l1.2 h1 l2.1 l2.2 s2 (fun i i0 i1 => (s4 i i0 i1).1), cut_same hy h0 l1.1 l1.2 h2 l3.1 l3.2 s3 (fun i i0 i1 => (s4 i i0 i1).2)⟩
theorem steps_all {x y : List Int} {base left right : Int} {P : SC → Prop} (Q : Int → Int → Int → Prop) (hP : ∀ {o a b o' a' b' : Int} {c : SC}, 0 ≤ o → 0 ≤ a → 0 ≤ b → ChunkIs x y base left right o a b o' a' b' c → Q o a b → P c ∧ Q o' a' b') :
  ∀ {o a b : Int} {cs : List SC}, Steps x y base left right o a b cs → Q o a b → ∀ c ∈ cs, P c := by
 intro o a b cs h
 induction h with
 | done => exact fun _ c hc => by cases hc
 | cons h0 h1 h2 hc _ ih =>
  intro hq c hm
  obtain ⟨g1, g2⟩ := hP h0 h1 h2 hc hq
  rcases List.mem_cons.1 hm with rfl | hm
  ·exact g1
  ·exact ih g2 c hm
theorem steps_base {y : List Int} {x : List Int} {base right : Int} (hx : ∀ i : Int, 0 ≤ i → i < base → rd x i = i) : ∀ {o a b : Int} {cs : List SC}, Steps x y base base right o a b cs → o = a → ∀ c ∈ cs, c.f1 = c.f2 := by
 intro o a b cs h he
 refine steps_all (P := fun c => c.f1 = c.f2) (fun o a b => o = a) ?_ h he
 rintro o a b o' a' b' c h0 h1 h2 hc rfl
 have key : o' = a' := by
  cases hf : c.f0 with
  | true => have := hc.st hf; omega
  | false =>
   rcases hc.nx hf with g | g
   ·omega
   ·have := g.2.1
    have l1 := hc.le1
    rw [show o' + 0 = o' by omega, hx o' (by omega) (by have := g.1; omega)] at this
    omega
 subst key
 exact ⟨by rw [hc.sp1, hc.sp2], rfl⟩
theorem steps_both {x : List Int} {base left : Int} : ∀ {o a b : Int} {cs : List SC}, Steps x x base left left o a b cs → a = b → ∀ c ∈ cs, c.f2 = c.f3 := by
 intro o a b cs h he
 refine steps_all (P := fun c => c.f2 = c.f3) (fun o a b => a = b) ?_ h he
 rintro o a b o' a' b' c h0 h1 h2 hc rfl
 have key : a' = b' := by
  cases hf : c.f0 with
  | true => have := hc.st hf; omega
  | false =>
   rcases hc.nx hf with g | g
   ·omega
   ·have := g.2.1
    have := g.2.2
    omega
 subst key
 exact ⟨by rw [hc.sp2, hc.sp3], rfl⟩
theorem catB_append (a b : List ByteArray) : catB (a ++ b) = catB a ++ catB b := bytes_ext (by unfold catB; rw [ByteArray.data_append, Array.toList_append, data_toB, data_toB, data_toB, List.flatMap_append])
theorem catB_nil : catB [] = ⟨#[]⟩ := rfl
theorem catB_flat {α : Type} (g : α → List ByteArray) : ∀ cs : List α, catB (cs.map (fun c => catB (g c))) = catB (cs.flatMap g)
 | [] => rfl
 | c :: cs => by
  rw [List.map_cons, List.flatMap_cons, catB_append, ← catB_flat g cs, show ∀ (s : ByteArray) l, catB (s :: l) = catB ([s] ++ l) from fun _ _ => rfl, catB_append]
  congr 1
  exact bytes_ext (by unfold catB; simp [data_toB])
theorem isTextP_textR (s : ByteArray) : isTextP (textR s) = true := by simp [isTextP, textR, bytes_toList]
theorem of_texts_acc : ∀ (ss : List ByteArray) (z : ByteArray), (ss.map textR).foldl ofStep [textR z] = [textR (z ++ catB ss)]
 | [], z => by
  rw [catB_nil]
  show [textR z] = [textR (z ++ _)]
  rw [show z ++ (⟨#[]⟩ : ByteArray) = z from bytes_ext (by rw [ByteArray.data_append, Array.toList_append]; simp)]
 | s :: ss, z => by
  rw [List.map_cons, List.foldl_cons]
  have hcat : catB (s :: ss) = s ++ catB ss := by
   rw [show s :: ss = [s] ++ ss from rfl, catB_append]
   congr 1
   exact bytes_ext (by unfold catB; simp [data_toB])
  by_cases hn : isNoneP (textR s) = true
  ·rw [ofStep_none _ _ hn, of_texts_acc ss z, hcat]
   have : s = ⟨#[]⟩ := by
    unfold isNoneP at hn
    rw [isTextP_textR, Bool.true_and] at hn
    have : s.toList.isEmpty = true := hn
    exact bytes_ext (by rw [← bytes_toList]; exact List.isEmpty_iff.1 this)
   subst this
   rw [show (⟨#[]⟩ : ByteArray) ++ catB ss = catB ss from bytes_ext (by rw [ByteArray.data_append, Array.toList_append]; simp)]
  ·have := ofStep_join [] (textR z) (textR s) hn (isTextP_textR s) (isTextP_textR z)
   rw [List.nil_append, List.nil_append] at this
   rw [this, show joinP (textR z) (textR s) = textR (z ++ s) from rfl, of_texts_acc ss (z ++ s), hcat]
   congr 2
   exact bytes_ext (by rw [ByteArray.data_append, ByteArray.data_append, ByteArray.data_append, ByteArray.data_append, Array.toList_append, Array.toList_append, Array.toList_append, Array.toList_append, List.append_assoc])
theorem of_texts : ∀ ss : List ByteArray, ofP (ss.map textR) = if (catB ss).size = 0 then [] else [textR (catB ss)]
 | [] => rfl
 | s :: ss => by
  have hcat : catB (s :: ss) = s ++ catB ss := by
   rw [show s :: ss = [s] ++ ss from rfl, catB_append]
   congr 1
   exact bytes_ext (by unfold catB; simp [data_toB])
  show ((s :: ss).map textR).foldl ofStep [] = _
  rw [List.map_cons, List.foldl_cons, hcat]
  by_cases hn : isNoneP (textR s) = true
  ·rw [ofStep_none _ _ hn]
   have : s = ⟨#[]⟩ := by
    unfold isNoneP at hn
    rw [isTextP_textR, Bool.true_and] at hn
    have : s.toList.isEmpty = true := hn
    exact bytes_ext (by rw [← bytes_toList]; exact List.isEmpty_iff.1 this)
   subst this
   rw [show (⟨#[]⟩ : ByteArray) ++ catB ss = catB ss from bytes_ext (by rw [ByteArray.data_append, Array.toList_append]; simp)]
   exact of_texts ss
  ·rw [ofStep_nil _ hn, of_texts_acc ss s, if_neg ?_]
   intro h0
   rw [ByteArray.size_append] at h0
   apply hn
   unfold isNoneP
   rw [isTextP_textR, Bool.true_and]
   exact (empty_toList s).2 (by omega)
theorem doc_texts {st fv : Int} {g0 g1 g2 : ByteArray} {B L R : List ByteArray} {cs : List SC} (g : SC → List ByteArray) (h : ∀ c ∈ cs, partsR st fv g0 g1 g2 B L R c = [textR (catB (g c))]) :
  docB st fv g0 g1 g2 B L R cs = if (catB (cs.flatMap g)).size = 0 then [] else [textR (catB (cs.flatMap g))] := by
 have : cs.flatMap (partsR st fv g0 g1 g2 B L R) = (cs.map (fun c => catB (g c))).map textR := by
  induction cs with
  | nil => rfl
  | cons c cs ih =>
   rw [List.flatMap_cons, List.map_cons, List.map_cons, h c (List.mem_cons_self ..), ih (fun c hc => h c (List.mem_cons_of_mem _ hc))]; rfl
 unfold docB
 rw [this, of_texts, catB_flat]
theorem print_text {s : ByteArray} {w : Int} (h1 : textRun s < w) (h2 : w ≤ 1073741824) : printP (if s.size = 0 then [] else [textR s]) w = (s, 0) := by
 have h0 := textRun_bound s
 rw [printP_in (by omega) h2]
 by_cases hs : s.size = 0
 ·rw [if_pos hs, if_pos (show rightP false [] = true from rfl), if_pos (by unfold fitsP; rw [decide_eq_true (show 1 ≤ w by omega)]; rfl)]
  have : s = ⟨#[]⟩ := bytes_ext (List.eq_nil_of_length_eq_zero (by rw [size_data]; exact hs))
  rw [this]; rfl
 ·rw [if_neg hs]
  have he : s.toList.isEmpty = false := by
   cases hx : s.toList.isEmpty with
   | false => rfl
   | true => exact absurd ((empty_toList s).1 hx) hs
  have hr : rightP false [textR s] = true := by
   rw [rightP_cons]
   unfold oneP
   rw [isTextP_textR, show (textR s).f4 = s from rfl, he]
   rfl
  have hf : fitsP [textR s] w = true := by
   unfold fitsP
   rw [decide_eq_true (show 1 ≤ w by omega)]
   rw [List.all_cons, List.all_nil, Bool.and_true, Bool.true_and]
   unfold narrowerP
   have e0 : textRun (⟨#[]⟩ : ByteArray) = 0 := rfl
   rw [show (textR s).f4 = s from rfl, show (textR s).f5 = ⟨#[]⟩ from rfl, show (textR s).f6 = ⟨#[]⟩ from rfl, show (textR s).f7 = ⟨#[]⟩ from rfl, e0, decide_eq_true h1, decide_eq_true (show (0 : Int) < w by omega)]
   rfl
  rw [if_pos hr, if_pos hf]
  have : printL w ([textR s].map to106) = s.data.toList := by simp [printL, partL, to106, textR]
  rw [this, toB_data]
end Go.Proofs.Ytfiamddinkokbaa.F
end

section
set_option linter.unusedVariables false
set_option linter.unusedSimpArgs false
namespace Go.Proofs.Ytfiamddinkokbaa.F
open Go.RowKit Go.Shelf Go.Proofs.YtfiamddinkokbaaW.PrintWords
set_option linter.unusedVariables false
set_option linter.unusedSimpArgs false
def atB (l : List SP) (i : Int) : Int := match l.find? (fun p => decide (p.f0 = i)) with
 | some p => p.f1
 | none => -1
def tabB (n : Nat) (l : List SP) : List Int := l.foldl (fun t p => t.set p.f0.toNat p.f1) (List.replicate n (-1))
theorem fold_length : ∀ (l : List SP) (t : List Int), (l.foldl (fun t p => t.set p.f0.toNat p.f1) t).length = t.length
 | [], t => rfl
 | p :: l, t => by rw [List.foldl_cons, fold_length l, List.length_set]
theorem tab_length (n : Nat) (l : List SP) : (tabB n l).length = n := by unfold tabB; rw [fold_length, List.length_replicate]
theorem fold_at : ∀ (l : List SP) (t : List Int), (∀ p ∈ l, 0 ≤ p.f0 ∧ p.f0 < t.length) → l.Pairwise Rise → ∀ i : Int, 0 ≤ i → i < t.length →
  rd (l.foldl (fun t p => t.set p.f0.toNat p.f1) t) i = (match l.find? (fun p => decide (p.f0 = i)) with | some p => p.f1 | none => rd t i)
 | [], t, _, _, i, _, _ => rfl
 | p :: l, t, h, hp, i, h0, h1 => by
  have hpl := h p (List.mem_cons_self ..)
  rw [List.foldl_cons, fold_at l (t.set p.f0.toNat p.f1) (fun q hq => by rw [List.length_set]; exact h q (List.mem_cons_of_mem _ hq)) (List.pairwise_cons.1 hp).2 i h0 (by rw [List.length_set]; exact h1)]
  by_cases hi : p.f0 = i
  ·have hno : l.find? (fun p => decide (p.f0 = i)) = none := List.find?_eq_none.2 (fun q hq hc => by
    have := ((List.pairwise_cons.1 hp).1 q hq).1
    have := of_decide_eq_true hc
    omega)
   rw [hno, List.find?_cons_of_pos (by simpa using hi)]
   subst hi
   exact rd_set_same h0 h1
  ·rw [List.find?_cons_of_neg (by simpa using hi)]
   cases l.find? (fun p => decide (p.f0 = i)) with
   | some q => rfl
   | none => exact rd_set_ne hpl.1 h0 (fun e => hi e.symm)
theorem tab_at {n : Nat} {l : List SP} (h : ∀ p ∈ l, 0 ≤ p.f0 ∧ p.f0 < n) (hp : l.Pairwise Rise) {i : Int} (h0 : 0 ≤ i) (h1 : i < n) : rd (tabB n l) i = atB l i := by
 unfold tabB atB
 rw [fold_at l _ (fun p hpm => by rw [List.length_replicate]; exact h p hpm) hp i h0 (by rw [List.length_replicate]; exact h1)]
 have : rd (List.replicate n (-1)) i = -1 := by
  unfold rd; rw [List.getD_eq_getElem?_getD, List.getElem?_replicate, if_pos (by omega)]; rfl
 cases l.find? (fun p => decide (p.f0 = i)) with
 | some q => rfl
 | none => exact this
theorem at_some {l : List SP} {i : Int} (h : atB l i ≠ -1) : ∃ p ∈ l, p.f0 = i ∧ p.f1 = atB l i := by
 unfold atB at *
 cases hf : l.find? (fun p => decide (p.f0 = i)) with
 | none => rw [hf] at h; exact absurd rfl h
 | some p => exact ⟨p, List.mem_of_find?_eq_some hf, (by have := List.find?_some hf; simpa using this), rfl⟩
theorem rise_cases : ∀ {l : List SP}, l.Pairwise Rise → ∀ p ∈ l, ∀ q ∈ l, p = q ∨ Rise p q ∨ Rise q p
 | x :: l, h, p, hp, q, hq => by
  rcases List.mem_cons.1 hp with rfl | hp2
  ·rcases List.mem_cons.1 hq with rfl | hq2
   ·exact .inl rfl
   ·exact .inr (.inl ((List.pairwise_cons.1 h).1 q hq2))
  ·rcases List.mem_cons.1 hq with rfl | hq2
   ·exact .inr (.inr ((List.pairwise_cons.1 h).1 p hp2))
   ·exact rise_cases (List.pairwise_cons.1 h).2 p hp2 q hq2
theorem at_of_mem {l : List SP} (hr : l.Pairwise Rise) {p : SP} (hp : p ∈ l) : atB l p.f0 = p.f1 := by
 unfold atB
 cases hf : l.find? (fun q => decide (q.f0 = p.f0)) with
 | none =>
  have := List.find?_eq_none.1 hf p hp
  simp at this
 | some q =>
  have e : q.f0 = p.f0 := by have := List.find?_some hf; simpa using this
  rcases rise_cases hr p hp q (List.mem_of_find?_eq_some hf) with h | h | h
  ·rw [h]
  ·have := h.1; omega
  ·have := h.1; omega
theorem tab_chain {a b : List Int} {l : List SP} (h : Chain a b 0 a.length 0 b.length l) : Tab (tabB a.length l) a.length b.length := by
 have hat : ∀ i : Int, 0 ≤ i → i < a.length → rd (tabB a.length l) i = atB l i := fun i h0 h1 => tab_at (fun p hp => ⟨(h.2 p hp).1, (h.2 p hp).2.1⟩) h.1 h0 h1
 refine ⟨by rw [tab_length], fun i h0 h1 => ?_, fun i j h0 h1 h2 g0 g1 => ?_⟩
 ·rw [hat i h0 h1]
  by_cases hn : atB l i = -1
  ·omega
  ·obtain ⟨p, hp, _, e⟩ := at_some hn
   have := h.2 p hp
   omega
 ·rw [hat i h0 (by omega)] at g0 ⊢
  rw [hat j (by omega) h2] at g1 ⊢
  obtain ⟨p, hp, e1, e2⟩ := at_some (l := l) (i := i) (by omega)
  obtain ⟨q, hq, f1, f2⟩ := at_some (l := l) (i := j) (by omega)
  rcases rise_cases h.1 p hp q hq with g | g | g
  ·subst g; omega
  ·have := g.2; omega
  ·have := g.1; omega
theorem tab_same {a b : List Int} {l : List SP} (h : Chain a b 0 a.length 0 b.length l) {i : Int} (h0 : 0 ≤ i) (h1 : i < a.length) (h2 : 0 ≤ rd (tabB a.length l) i) : rd a i = rd b (rd (tabB a.length l) i) := by
 rw [tab_at (fun p hp => ⟨(h.2 p hp).1, (h.2 p hp).2.1⟩) h.1 h0 h1] at h2 ⊢
 obtain ⟨p, hp, e1, e2⟩ := at_some (l := l) (i := i) (by omega)
 have := (h.2 p hp).2.2.2.2
 rw [← e2, ← e1]
 exact this
end Go.Proofs.Ytfiamddinkokbaa.F
end

section
set_option linter.unusedVariables false
set_option linter.unusedSimpArgs false
namespace Go.Proofs.Ytfiamddinkokbaa.F
open Go.RowKit Go.Shelf Go.Proofs.YtfiamddinkokbaaW.PrintWords
set_option linter.unusedVariables false
set_option linter.unusedSimpArgs false
theorem rdP_at (l : List SP) (i : Int) (xs ys : List SP) (c : SP) (h : l = xs ++ c :: ys) (hi : i = xs.length) : rd_T196 l i = c := rdOf_at _ l i xs ys c h hi
theorem table_in (n m : Nat) (l : List SP) (hn : n ≤ 4000000000) (hm : m ≤ 4000000000) (hl : l.length ≤ 4000000000) (hb : ∀ p ∈ l, 0 ≤ p.f0 ∧ p.f0 < n ∧ 0 ≤ p.f1 ∧ p.f1 < m) :
  ∀ (rest done : List SP) (t : List Int) (i wa wb : Int), l = done ++ rest → i = done.length → t.length = n → rest.Pairwise Rise → (∀ p ∈ rest, wa < p.f0 ∧ wb < p.f1) → Ev (fun k => chunk_table.l0 k n m t l (l.length : Int) i wa wb) (rest.foldl (fun t p => t.set p.f0.toNat p.f1) t, true)
 | [], done, t, i, wa, wb, hd, hi, ht, hr, hw => by
  refine Ev.succ ?_
  simp only [chunk_table.l0]
  exact Ev.neg (by rw [hd]; simp; omega) (Ev.val rfl)
 | p :: rest, done, t, i, wa, wb, hd, hi, ht, hr, hw => by
  have hsz : l.length = done.length + (rest.length + 1) := by rw [hd]; simp
  have hwr : wrap64 (i + 1) = i + 1 := wrap_in (by omega) (by omega)
  have hrd := rdP_at l i done rest p hd hi
  have hp := hb p (by rw [hd]; simp)
  have hwp := hw p (List.mem_cons_self ..)
  refine Ev.succ ?_
  simp only [chunk_table.l0, hwr, hrd]
  refine Ev.pos (by omega) (Ev.pos (by omega) (Ev.pos (by omega) (Ev.neg (by omega) (Ev.neg (by omega) (Ev.neg (by omega) (Ev.neg (by omega) (Ev.pos (by omega) (Ev.pos (by omega) ?_))))))))
  exact table_in n m l hn hm hl hb rest (done ++ [p]) (t.set p.f0.toNat p.f1) (i + 1) p.f0 p.f1 (by rw [hd]; simp) (by simp; omega) (by rw [List.length_set]; exact ht) (List.pairwise_cons.1 hr).2 (fun q hq => (List.pairwise_cons.1 hr).1 q hq)
def Rises (n m : Nat) (l : List SP) : Prop := l.Pairwise Rise ∧ ∀ p ∈ l, 0 ≤ p.f0 ∧ p.f0 < n ∧ 0 ≤ p.f1 ∧ p.f1 < m
theorem ev_table {n m : Nat} {l : List SP} (h : Rises n m l) (ha : n ≤ 4000000000) (hb : m ≤ 4000000000) (hl : l.length ≤ 4000000000) : Ev (fun k => chunk_table.f k (n : Int) (m : Int) l) (tabB n l, true) := by
 unfold chunk_table.f
 refine Ev.neg (by omega) ?_
 rw [decide_eq_false (show ¬ (m : Int) < 0 by omega)]
 refine Ev.succ ?_
 simp only [chunk_table.j0]
 refine Ev.neg (by simp) (Ev.bind (a := List.replicate n (-1)) (Ev.const ?_) ?_)
 ·unfold slices_Repeat_int_int.f
  rw [if_pos ⟨rfl, by omega, by omega⟩]; simp
 ·exact table_in n m l ha hb hl h.2 l [] _ 0 (-1) (-1) rfl rfl (by simp) h.1 (fun p hp => by have := h.2 p hp; omega)
theorem together_f {x y : List Int} {base left right o a b i : Int} (hx : Tab x base left) (hy : Tab y base right) (ho : 0 ≤ o) (hi : 0 ≤ i) (h1 : o + i ≤ 8000000000) (h2 : a + i ≤ 8000000000) (h3 : b + i ≤ 8000000000) (ha : 0 ≤ a) (hb : 0 ≤ b) :
  ∃ t : Bool, (t = true ↔ Tog x y base o a b i) ∧ chunk_sweep_together.f x y o a b i = some (t, o, a, b) := by
 have e1 : wrap64 (o + i) = o + i := wrap_in (by omega) (by omega)
 have e2 : wrap64 (a + i) = a + i := wrap_in (by omega) (by omega)
 have e3 : wrap64 (b + i) = b + i := wrap_in (by omega) (by omega)
 have l1 := hx.len
 have l2 := hy.len
 unfold chunk_sweep_together.f Tog
 rw [e1, e2, e3]
 by_cases c1 : o + i < base
 ·rw [if_pos (by omega), if_pos (by omega)]
  by_cases c2 : rd x (o + i) = a + i
  ·rw [if_pos c2, if_pos (by omega)]
   exact ⟨_, by rw [beq_iff_eq]; exact ⟨fun h => ⟨c1, c2, h⟩, fun h => h.2.2⟩, rfl⟩
  ·rw [if_neg c2]
   exact ⟨false, by simp; omega, rfl⟩
 ·rw [if_neg (by omega)]
  exact ⟨false, by simp; omega, rfl⟩
theorem stable_in {x y : List Int} {base left right o a b n : Int} (hx : Tab x base left) (hy : Tab y base right) (ho : 0 ≤ o) (ha : 0 ≤ a) (hb : 0 ≤ b) (hs : StabIs x y base o a b n) (h1 : o + n ≤ 8000000000) (h2 : a + n ≤ 8000000000) (h3 : b + n ≤ 8000000000) :
  ∀ (d : Nat) (i : Int), 0 ≤ i → i + d = n → Ev (fun k => chunk_sweep_stable.l0 k i x y o a b) (n, o, a, b)
 | 0, i, h0, he => by
  obtain ⟨t, ht, hf⟩ := together_f (i := i) hx hy ho h0 (by omega) (by omega) (by omega) ha hb
  have : t = false := by
   cases t with
   | false => rfl
   | true => exact absurd (ht.1 rfl) (by rw [show i = n by omega]; exact hs.2.2)
  subst this
  refine Ev.succ ?_
  simp only [chunk_sweep_stable.l0]
  refine Ev.bind (Ev.const hf) (Ev.neg (by simp) (Ev.val ?_))
  rw [show i = n by omega]
 | d + 1, i, h0, he => by
  obtain ⟨t, ht, hf⟩ := together_f (i := i) hx hy ho h0 (by omega) (by omega) (by omega) ha hb
  have : t = true := ht.2 (hs.2.1 i h0 (by omega))
  subst this
  refine Ev.succ ?_
  simp only [chunk_sweep_stable.l0]
  refine Ev.bind (Ev.const hf) (Ev.pos rfl ?_)
  rw [wrap_in (show -9223372036854775808 ≤ i + 1 by omega) (by omega)]
  exact stable_in hx hy ho ha hb hs h1 h2 h3 d (i + 1) (by omega) (by omega)
theorem next_in {x y : List Int} {base left right o a b tn : Int} (hx : Tab x base left) (hy : Tab y base right) (ho : 0 ≤ o) (hn : NextIs x y base o a b tn) (h1 : base ≤ 8000000000) :
  ∀ (d : Nat) (i : Int), o ≤ i → i + d = tn → Ev (fun k => chunk_sweep_next.l0 k i x y o a b) (tn, o, a, b)
 | 0, i, h0, he => by
  have e : i = tn := by omega
  subst e
  have l1 := hx.len
  have l2 := hy.len
  refine Ev.succ ?_
  simp only [chunk_sweep_next.l0]
  by_cases hb : i < base
  ·have := hn.2.2.2 hb
   exact Ev.pos (by omega) (Ev.pos (by omega) (Ev.neg (by omega) (Ev.pos (by omega) (Ev.neg (by omega) (Ev.val rfl)))))
  ·exact Ev.neg (by omega) (Ev.val rfl)
 | d + 1, i, h0, he => by
  have l1 := hx.len
  have l2 := hy.len
  have hb := hn.2.1
  have hlt := hn.2.2.1 i h0 (by omega)
  have next := next_in hx hy ho hn h1 d (i + 1) (by omega) (by omega)
  refine Ev.succ ?_
  simp only [chunk_sweep_next.l0]
  rw [wrap_in (show -9223372036854775808 ≤ i + 1 by omega) (by omega)]
  refine Ev.pos (by omega) (Ev.pos (by omega) ?_)
  by_cases hc : rd x i < a
  ·exact Ev.pos hc next
  ·exact Ev.neg hc (Ev.pos (by omega) (Ev.pos (by omega) next))
theorem ev_step {x y : List Int} {base left right o a b n : Int} (hx : Tab x base left) (hy : Tab y base right) (ho : 0 ≤ o) (ha : 0 ≤ a) (hb : 0 ≤ b) (h1 : base ≤ 4000000000) (h2 : left ≤ 4000000000) (h3 : right ≤ 4000000000) (hs : StabIs x y base o a b n) (ho' : o ≤ base) (ha' : a ≤ left) (hb' : b ≤ right) :
  Ev (fun k => chunk_sweep_stable.f k x y o a b) (n, o, a, b) := by
 by_cases hp : 0 < n
 ·obtain ⟨g1, g2, g3⟩ := stab_in hx hy ho hs hp
  exact stable_in hx hy ho ha hb hs (by omega) (by omega) (by omega) n.toNat 0 (by omega) (by omega)
 ·have := hs.1
  exact stable_in hx hy ho ha hb hs (by omega) (by omega) (by omega) n.toNat 0 (by omega) (by omega)
theorem sweep_len {x y : List Int} {base left right : Int} (hx : Tab x base left) (hy : Tab y base right) : ∀ {o a b : Int} {l : List SC}, Sweep x y base left right o a b l → 0 ≤ o → o ≤ base → 0 ≤ a → a ≤ left → 0 ≤ b → b ≤ right → (l.length : Int) ≤ (base - o) + (left - a) + (right - b) := by
 intro o a b l h h0 h1 h2 h3 h4 h5
 have hs := steps_of hx hy h h0 h1 h2 h3 h4 h5
 clear h h0 h1 h2 h3 h4 h5
 induction hs with
 | done => simp
 | cons h0 h1 h2 hc _ ih =>
  have := hc.some
  have := hc.le1
  have := hc.le2
  have := hc.le3
  simp only [List.length_cons]
  omega
theorem ev_ofL {x y : List Int} {base left right : Int} (hx : Tab x base left) (hy : Tab y base right) (h1 : base ≤ 4000000000) (h2 : left ≤ 4000000000) (h3 : right ≤ 4000000000) :
  ∀ {o a b : Int} {l : List SC}, Sweep x y base left right o a b l → 0 ≤ o → o ≤ base → 0 ≤ a → a ≤ left → 0 ≤ b → b ≤ right → ∀ out : List SC, out.length + l.length ≤ 100000000000 → Ev (fun k => ofL x y base left right k o a b out) (out ++ l) := by
 intro o a b l h
 induction h with
 | done h =>
  intro _ _ _ _ _ _ out _
  refine Ev.succ ?_
  simp only [ofL]
  rw [List.append_nil]
  exact Ev.neg h (Ev.val rfl)
 | stab h hs hp _ ih =>
  intro g0 g1 g2 g3 g4 g5 out hl
  rename_i o a b n l _
  obtain ⟨k1, k2, k3⟩ := stab_in hx hy g0 hs hp
  refine Ev.succ ?_
  simp only [ofL]
  refine Ev.pos h (Ev.bind (a := (n, o + n, a + n, b + n)) ?_ ?_)
  ·unfold stepO
   refine Ev.bind (ev_step hx hy g0 g2 g4 h1 h2 h3 hs g1 g3 g5) (Ev.neg (by omega) (Ev.val ?_))
   rw [wrap_in (by omega) (by omega), wrap_in (by omega) (by omega), wrap_in (by omega) (by omega)]
  ·refine Ev.pos (by simp only [List.length_cons] at hl; omega) ((ih (by omega) k1 (by omega) k2 (by omega) k3 (out ++ [chunkC n o a b (o + n) (a + n) (b + n)]) (by simp only [List.length_append, List.length_cons, List.length_nil] at *; omega)).cast ?_)
   simp
 | next h hs hn hb _ ih =>
  intro g0 g1 g2 g3 g4 g5 out hl
  rename_i o a b tn l _
  have m1 := hx.rng tn (by have := hn.1; omega) hb
  have m2 := hy.rng tn (by have := hn.1; omega) hb
  have m3 := hn.2.2.2 hb
  have m4 := hn.1
  have l1 := hx.len
  have l2 := hy.len
  refine Ev.succ ?_
  simp only [ofL]
  refine Ev.pos h (Ev.bind (a := (0, tn, rd x tn, rd y tn)) ?_ ?_)
  ·unfold stepO
   exact Ev.bind (ev_step hx hy g0 g2 g4 h1 h2 h3 hs g1 g3 g5) (Ev.pos rfl (Ev.bind (a := (tn, o, a, b)) (next_in hx hy g0 hn (by omega) (tn - o).toNat o (by omega) (by omega)) (Ev.pos hb (Ev.pos ⟨by omega, by omega, by omega⟩ (Ev.val rfl)))))
  ·refine Ev.pos (by simp only [List.length_cons] at hl; omega) ((ih (by omega) (by omega) (by omega) (by omega) (by omega) (by omega) (out ++ [chunkC 0 o a b tn (rd x tn) (rd y tn)]) (by simp only [List.length_append, List.length_cons, List.length_nil] at *; omega)).cast ?_)
   simp
 | last h hs hn _ ih =>
  intro g0 g1 g2 g3 g4 g5 out hl
  rename_i o a b l _
  refine Ev.succ ?_
  simp only [ofL]
  refine Ev.pos h (Ev.bind (a := (0, base, left, right)) ?_ ?_)
  ·unfold stepO
   exact Ev.bind (ev_step hx hy g0 g2 g4 h1 h2 h3 hs g1 g3 g5) (Ev.pos rfl (Ev.bind (a := (base, o, a, b)) (next_in hx hy g0 hn (by omega) (base - o).toNat o (by omega) (by omega)) (Ev.neg (by omega) (Ev.val rfl))))
  ·refine Ev.pos (by simp only [List.length_cons] at hl; omega) ((ih (by omega) (by omega) (by omega) (by omega) (by omega) (by omega) (out ++ [chunkC 0 o a b base left right]) (by simp only [List.length_append, List.length_cons, List.length_nil] at *; omega)).cast ?_)
   simp
theorem ev_chunk_of {nB nL nR : Nat} {lp rp : List SP} {cs : List SC} (h1 : Rises nB nL lp) (h2 : Rises nB nR rp) (hx : Tab (tabB nB lp) nB nL) (hy : Tab (tabB nB rp) nB nR) (ha : nB ≤ 1000000000) (hb : nL ≤ 1000000000) (hc : nR ≤ 1000000000) (hl : lp.length ≤ 4000000000) (hr : rp.length ≤ 4000000000)
  (hs : Sweep (tabB nB lp) (tabB nB rp) nB nL nR 0 0 0 cs) : Ev (fun k => chunk_Of.f k (nB : Int) (nL : Int) (nR : Int) lp rp) (cs, 0) := by
 have hlen := sweep_len hx hy hs (by omega) (by omega) (by omega) (by omega) (by omega) (by omega)
 unfold chunk_Of.f ofF
 exact Ev.bind (ev_table h1 (by omega) (by omega) hl) (Ev.bind (ev_table h2 (by omega) (by omega) hr) (Ev.pos ⟨rfl, rfl⟩ (Ev.bind ((ev_ofL hx hy (by omega) (by omega) (by omega) hs (by omega) (by omega) (by omega) (by omega) (by omega) (by omega) [] (by simp only [List.length_nil]; omega)).cast (by simp)) (Ev.val rfl))))
theorem span_cut (i j : Int) (l : List ByteArray) (hl : l.length ≤ 4000000000) : chunk_Span_Cut.f i j l = some (spanL ⟨i, j⟩ l) := by
 unfold chunk_Span_Cut.f spanL
 by_cases c1 : i < 0
 ·rw [if_pos c1, if_pos (.inl c1)]
 ·rw [if_neg c1]
  by_cases c2 : j > (l.length : Int)
  ·rw [if_pos c2, if_pos (.inr (.inl c2))]
  ·rw [if_neg c2]
   by_cases c3 : j < i
   ·rw [if_pos c3, if_pos (.inr (.inr c3))]
   ·rw [if_neg c3, if_pos (by omega), if_pos (by omega), if_pos (by omega), if_neg (by show ¬ (i < 0 ∨ (l.length : Int) < j ∨ j < i); omega)]
    unfold slices_Clone_string_string.f
    rw [if_pos (by rw [List.length_drop, List.length_take]; omega)]
    rfl
theorem span_len {s : SSp} {l : List ByteArray} : (spanL s l).length ≤ l.length := by
 unfold spanL
 split
 ·simp
 ·rw [List.length_drop, List.length_take]; omega
theorem equal_in (a b : List ByteArray) (hn : a.length ≤ 4000000000) (hab : a.length = b.length) : ∀ (ra rb da db : List ByteArray) (i : Int), a = da ++ ra → b = db ++ rb → da.length = db.length → i = da.length → Ev (fun k => slices_Equal_string_string.l0 k a b (a.length : Int) i) (decide (ra = rb))
 | [], rb, da, db, i, ha, hb, hd, ei => by
  have : rb = [] := by
   rw [ha, hb] at hab; simp at hab; exact List.length_eq_zero_iff.1 (by omega)
  subst this
  refine Ev.succ ?_
  simp only [slices_Equal_string_string.l0]
  refine Ev.neg (by rw [ha]; simp; omega) (Ev.val (by simp))
 | x :: ra, [], da, db, i, ha, hb, hd, ei => by
  rw [ha, hb] at hab; simp at hab; omega
 | x :: ra, y :: rb, da, db, i, ha, hb, hd, ei => by
  have hsz : a.length = da.length + (ra.length + 1) := by rw [ha]; simp
  have hw : wrap64 (i + 1) = i + 1 := wrap_in (by omega) (by omega)
  refine Ev.succ ?_
  simp only [slices_Equal_string_string.l0, hw, rdOf_at _ a i da ra x ha ei, rdOf_at _ b i db rb y hb (by omega)]
  refine Ev.pos (by omega) (Ev.pos (by omega) (Ev.pos (by omega) (Ev.pos (by omega) ?_)))
  by_cases he : x.toList = y.toList
  ·refine Ev.pos he ?_
   have hxy := toList_inj he
   subst hxy
   refine (equal_in a b hn hab ra rb (da ++ [x]) (db ++ [x]) (i + 1) (by rw [ha]; simp) (by rw [hb]; simp) (by simp [hd]) (by simp; omega)).cast ?_
   exact decide_eq_decide.2 ⟨fun h => by rw [h], fun h => (List.cons.inj h).2⟩
  ·refine Ev.neg he (Ev.val ?_)
   exact (decide_eq_false (fun h => he (by rw [(List.cons.inj h).1]))).symm
theorem ev_same (a b : List ByteArray) (hn : a.length ≤ 4000000000) : Ev (fun k => trim_Same_string.f k a b) (decide (a = b)) := by
 unfold trim_Same_string.f
 refine Ev.bind ?_ (Ev.val rfl)
 unfold slices_Equal_string_string.f
 by_cases h : (a.length : Int) = b.length
 ·exact Ev.pos h (equal_in a b hn (by omega) a b [] [] 0 rfl rfl rfl rfl)
 ·refine Ev.neg h (Ev.val ?_)
  exact (decide_eq_false (fun e => h (by rw [e]))).symm
theorem ev_class (c : SC) (B L R : List ByteArray) (hB : B.length ≤ 4000000000) (hL : L.length ≤ 4000000000) (hR : R.length ≤ 4000000000) : Ev (fun k => chunk_Chunk_Class.f k c.f0 c.f1.f0 c.f1.f1 c.f2.f0 c.f2.f1 c.f3.f0 c.f3.f1 B L R) (clsI c B L R) := by
 unfold chunk_Chunk_Class.f classF clsI
 have s1 := span_len (s := c.f1) (l := B)
 have s2 := span_len (s := c.f2) (l := L)
 refine Ev.bind (Ev.const (span_cut _ _ B hB)) (Ev.bind (Ev.const (span_cut _ _ L hL)) (Ev.bind (Ev.const (span_cut _ _ R hR)) ?_))
 by_cases c0 : c.f0 = true
 ·rw [if_pos c0]; exact Ev.pos c0 (Ev.val rfl)
 ·rw [if_neg c0]
  refine Ev.neg c0 (Ev.bind (ev_same _ _ (Nat.le_trans span_len hB)) ?_)
  by_cases c1 : spanL c.f1 B = spanL c.f2 L
  ·rw [if_pos c1]; exact Ev.pos (by simpa using c1) (Ev.val rfl)
  ·rw [if_neg c1]
   refine Ev.neg (by simpa using c1) (Ev.bind (ev_same _ _ (Nat.le_trans span_len hB)) ?_)
   by_cases c2 : spanL c.f1 B = spanL c.f3 R
   ·rw [if_pos c2]; exact Ev.pos (by simpa using c2) (Ev.val rfl)
   ·rw [if_neg c2]
    refine Ev.neg (by simpa using c2) (Ev.bind (ev_same _ _ (Nat.le_trans span_len hL)) ?_)
    by_cases c3 : spanL c.f2 L = spanL c.f3 R
    ·rw [if_pos c3]; exact Ev.pos (by simpa using c3) (Ev.val rfl)
    ·rw [if_neg c3]; exact Ev.neg (by simpa using c3) (Ev.val rfl)
theorem ev_cut (c : SC) (B L R : List ByteArray) (hB : B.length ≤ 4000000000) (hL : L.length ≤ 4000000000) (hR : R.length ≤ 4000000000) :
  Ev (fun k => build_Files_cut.f k B L R c.f0 c.f1.f0 c.f1.f1 c.f2.f0 c.f2.f1 c.f3.f0 c.f3.f1) (c.f0, c.f1.f0, c.f1.f1, c.f2.f0, c.f2.f1, c.f3.f0, c.f3.f1, spanL c.f1 B, spanL c.f2 L, spanL c.f3 R, clsI c B L R) := by
 unfold build_Files_cut.f
 exact Ev.bind (Ev.const (span_cut _ _ B hB)) (Ev.bind (Ev.const (span_cut _ _ L hL)) (Ev.bind (Ev.const (span_cut _ _ R hR)) (Ev.bind (ev_class c B L R hB hL hR) (Ev.val rfl))))
theorem count_in (B L R : List ByteArray) (hB : B.length ≤ 4000000000) (hL : L.length ≤ 4000000000) (hR : R.length ≤ 4000000000) : ∀ (rest : List SC) (n : Int), Ev (fun k => countL k B L R rest n) (n + countB B L R rest)
 | [], n => by
  simp only [countL]
  exact Ev.val (by simp [countB])
 | c :: rest, n => by
  simp only [countL]
  refine Ev.bind (ev_cut c B L R hB hL hR) ?_
  by_cases hc : clsI c B L R = 4
  ·simp only [if_pos hc]
   refine (count_in B L R hB hL hR rest (n + 1)).cast ?_
   unfold countB
   rw [List.filter_cons_of_pos (by simpa using hc)]
   simp only [List.length_cons]
   omega
  ·simp only [if_neg hc]
   refine (count_in B L R hB hL hR rest n).cast ?_
   unfold countB
   rw [List.filter_cons_of_neg (by simpa using hc)]
theorem ev_count (B L R : List ByteArray) (hB : B.length ≤ 4000000000) (hL : L.length ≤ 4000000000) (hR : R.length ≤ 4000000000) (l : List SC) (hl : l.length ≤ 4000000000000) : Ev (fun k => build_Count.f k B L R l) (countB B L R l) := by
 unfold build_Count.f countF
 exact Ev.pos hl ((count_in B L R hB hL hR l 0).cast (by omega))
end Go.Proofs.Ytfiamddinkokbaa.F
end

section
set_option linter.unusedVariables false
set_option linter.unusedSimpArgs false
namespace Go.Proofs.Ytfiamddinkokbaa.F
open Go.RowKit Go.Shelf Go.Proofs.YtfiamddinkokbaaW.PrintWords
set_option linter.unusedVariables false
set_option linter.unusedSimpArgs false
def ixK (K : List (List UInt8)) (s : ByteArray) : Int := (K.idxOf s.data.toList : Nat)
theorem numStep_pre (K : List (List UInt8)) (s : ByteArray) : K <+: numStep K s := by unfold numStep; split; exact List.prefix_refl _; exact List.prefix_append _ _
theorem numStep_mem (K : List (List UInt8)) (s : ByteArray) : s.data.toList ∈ numStep K s := by unfold numStep; split; assumption; simp
theorem knRow_pre : ∀ (l : List ByteArray) (K : List (List UInt8)), K <+: knRow K l
 | [], K => List.prefix_refl _
 | s :: l, K => (numStep_pre K s).trans (knRow_pre l (numStep K s))
theorem knRow_mem : ∀ (l : List ByteArray) (K : List (List UInt8)), ∀ s ∈ l, s.data.toList ∈ knRow K l
 | t :: l, K, s, hs => by
  rcases List.mem_cons.1 hs with rfl | hs
  ·exact (knRow_pre l (numStep K s)).subset (numStep_mem K s)
  ·exact knRow_mem l (numStep K t) s hs
theorem idx_pre {K K' : List (List UInt8)} (h : K <+: K') {s : List UInt8} (hs : s ∈ K) : K'.idxOf s = K.idxOf s := by
 obtain ⟨t, rfl⟩ := h
 rw [List.idxOf_append, if_pos hs]
theorem numOf_step (K : List (List UInt8)) (s : ByteArray) : numOf K s = ixK (numStep K s) s := by
 unfold numOf ixK numStep
 split
 ·rfl
 ·rename_i h
  rw [List.idxOf_append, if_neg h, List.idxOf_eq_length h]; simp
theorem numRow_map : ∀ (l : List ByteArray) (K K' : List (List UInt8)), knRow K l <+: K' → numRow K l = l.map (ixK K')
 | [], K, K', h => rfl
 | s :: l, K, K', h => by
  rw [numRow, List.map_cons, numRow_map l (numStep K s) K' h, numOf_step]
  congr 1
  unfold ixK
  rw [idx_pre ((knRow_pre l (numStep K s)).trans h) (numStep_mem K s)]
def kn2 (B L : List ByteArray) : List (List UInt8) := knRow (knRow [] B) L
theorem number_two (B L : List ByteArray) : numberB [B, L] = [B.map (ixK (kn2 B L)), L.map (ixK (kn2 B L))] := by
 unfold numberB
 rw [numAll, numAll, numAll, numRow_map B [] (kn2 B L) (knRow_pre L _), numRow_map L (knRow [] B) (kn2 B L) (List.prefix_refl _)]
theorem kn2_left (B L : List ByteArray) : ∀ s ∈ B, s.data.toList ∈ kn2 B L := fun s hs => (knRow_pre L _).subset (knRow_mem B [] s hs)
theorem ixK_inj {K : List (List UInt8)} {s t : ByteArray} (hs : s.data.toList ∈ K) (h : ixK K s = ixK K t) : s = t := by
 unfold ixK at h
 have h' : K.idxOf s.data.toList = K.idxOf t.data.toList := by omega
 have ht : t.data.toList ∈ K := by
  have := List.idxOf_lt_length_of_mem hs
  rw [h'] at this
  exact List.idxOf_lt_length_iff.1 this
 have e1 := List.getElem_idxOf (List.idxOf_lt_length_of_mem hs)
 have e2 := List.getElem_idxOf (List.idxOf_lt_length_of_mem ht)
 apply bytes_ext
 rw [← e1, ← e2]
 simp only [h']
theorem rd_map_ix {K : List (List UInt8)} {B : List ByteArray} {i : Int} (h0 : 0 ≤ i) (h1 : i < B.length) : ∃ s, B[i.toNat]? = some s ∧ s ∈ B ∧ rd (B.map (ixK K)) i = ixK K s := by
 have hi : i.toNat < B.length := by omega
 refine ⟨B[i.toNat], List.getElem?_eq_getElem hi, List.getElem_mem hi, ?_⟩
 unfold rd
 rw [List.getD_eq_getElem?_getD, List.getElem?_map, List.getElem?_eq_getElem hi]; rfl
structure Matched (B L : List ByteArray) (lp : List SP) : Prop where
 eq : merge_match.f B L = some lp
 chain : Chain (B.map (ixK (kn2 B L))) (L.map (ixK (kn2 B L))) 0 B.length 0 L.length lp
 len : lp.length = Lcs.lcs (B.map (ixK (kn2 B L))) (L.map (ixK (kn2 B L)))
 lele : lp.length ≤ B.length
 tab : TabOf (tabB B.length lp) B L
theorem matched_ex (B L : List ByteArray) (hB : B.length ≤ 1000000000) (hL : L.length ≤ 1000000000) (sB : ∀ s ∈ B, s.size ≤ 4000000000) (sL : ∀ s ∈ L, s.size ≤ 4000000000) : ∃ lp, Matched B L lp := by
 obtain ⟨lp, h1, h2, h3⟩ := match_law (B.map (ixK (kn2 B L))) (L.map (ixK (kn2 B L))) (by rw [List.length_map]; omega) (by rw [List.length_map]; omega)
 have h4 := Lcs.lcs_le_left (B.map (ixK (kn2 B L))) (L.map (ixK (kn2 B L)))
 rw [List.length_map, List.length_map] at h2
 rw [List.length_map] at h4
 refine ⟨lp, ?_, h2, h3, by omega, ?_, ?_⟩
 ·unfold merge_match.f lines_Number.f
  have hcond : (∀ f ∈ [B, L], ∀ s ∈ f, s.size ≤ 4000000000) ∧ total [B, L] ≤ 4000000000 ∧ [B, L].length ≤ 4000000000 := by
   refine ⟨fun f hf => ?_, by unfold total; simp; omega, by simp⟩
   simp only [List.mem_cons, List.not_mem_nil, or_false] at hf
   rcases hf with rfl | rfl
   ·exact sB
   ·exact sL
  rw [if_pos hcond, Option.bind_some, number_two, if_pos (by simp), if_pos (by simp)]
  show (lcs_Match.f (B.map (ixK (kn2 B L))) (L.map (ixK (kn2 B L)))).bind _ = _
  unfold lcs_Match.f
  rw [if_pos ⟨by rw [List.length_map]; omega, by rw [List.length_map]; omega⟩, h1, Option.bind_some, if_pos (by omega)]; rfl
 ·have := tab_chain (a := B.map (ixK (kn2 B L))) (b := L.map (ixK (kn2 B L))) (l := lp) (by rw [List.length_map, List.length_map]; exact h2)
  rwa [List.length_map, List.length_map] at this
 ·intro i h0 hi hr
  have hs := tab_same (a := B.map (ixK (kn2 B L))) (b := L.map (ixK (kn2 B L))) (l := lp) (by rw [List.length_map, List.length_map]; exact h2) h0 (by rw [List.length_map]; exact hi) (by rw [List.length_map]; exact hr)
  rw [List.length_map] at hs
  have ht := tab_chain (a := B.map (ixK (kn2 B L))) (b := L.map (ixK (kn2 B L))) (l := lp) (by rw [List.length_map, List.length_map]; exact h2)
  rw [List.length_map, List.length_map] at ht
  obtain ⟨s, e1, m1, f1⟩ := rd_map_ix (K := kn2 B L) h0 hi
  obtain ⟨t, e2, m2, f2⟩ := rd_map_ix (K := kn2 B L) (B := L) hr (ht.rng i h0 hi).2
  rw [f1, f2] at hs
  rw [e1, e2, ixK_inj (kn2_left B L s m1) hs]
theorem Matched.rises {B L : List ByteArray} {lp : List SP} (h : Matched B L lp) : Rises B.length L.length lp := ⟨h.chain.1, fun p hp => by have := h.chain.2 p hp; omega⟩
theorem Matched.unique {B L : List ByteArray} {lp lp' : List SP} (h : Matched B L lp) (h' : Matched B L lp') : lp = lp' := Option.some.inj (h.eq.symm.trans h'.eq)
theorem pre_self {α : Type} [DecidableEq α] : ∀ a : List α, pre a a = a.length
 | [] => rfl
 | x :: a => by rw [pre, if_pos rfl, pre_self a, List.length_cons]
theorem match_self (a : List Int) : matchF a a = some (diagP 0 0 a.length) := by
 unfold matchF
 rw [findF, if_pos ⟨by omega, by omega, by omega, by omega, by omega, by omega⟩, piece_all]
 have e1 : endsN a a = a.length := pre_self a
 have e2 : endsM a a = 0 := by unfold endsM; rw [pre_self, pre_self, List.drop_length]; rfl
 rw [e1, e2, if_neg (by omega)]
 simp [diagP]
theorem matched_self {B : List ByteArray} {lp : List SP} (h : Matched B B lp) : ∀ i : Int, 0 ≤ i → i < B.length → rd (tabB B.length lp) i = i := by
 intro i h0 h1
 have hm : matchF (B.map (ixK (kn2 B B))) (B.map (ixK (kn2 B B))) = some lp := by
  have := h.eq
  unfold merge_match.f lines_Number.f at this
  split at this
  ·rw [Option.bind_some, number_two, if_pos (by simp), if_pos (by simp)] at this
   have h2 : (lcs_Match.f (B.map (ixK (kn2 B B))) (B.map (ixK (kn2 B B)))).bind (fun t => some t) = some lp := this
   obtain ⟨r, hr, h2⟩ := Option.bind_eq_some_iff.1 h2
   obtain rfl := Option.some.inj h2
   unfold lcs_Match.f at hr
   split at hr
   ·obtain ⟨r', hr', h3⟩ := Option.bind_eq_some_iff.1 hr
    split at h3
    ·rw [hr', Option.some.inj h3]
    ·cases h3
   ·cases hr
  ·cases this
 rw [match_self] at hm
 obtain rfl := Option.some.inj hm
 rw [List.length_map] at *
 have hc := h.chain
 have hmem : (⟨i, i⟩ : SP) ∈ diagP 0 0 B.length := by
  unfold diagP
  refine List.mem_map.2 ⟨i.toNat, List.mem_range.2 (by omega), ?_⟩
  simp only [Int.zero_add]
  rw [show ((i.toNat : Nat) : Int) = i by omega]
 rw [tab_at (fun p hp => ⟨(hc.2 p hp).1, (hc.2 p hp).2.1⟩) hc.1 h0 h1]
 exact at_of_mem hc.1 hmem
structure Merged (B L R : List ByteArray) (lp rp : List SP) (cs : List SC) : Prop where
 ml : Matched B L lp
 mr : Matched B R rp
 sw : Sweep (tabB B.length lp) (tabB B.length rp) B.length L.length R.length 0 0 0 cs
theorem Merged.steps {B L R : List ByteArray} {lp rp : List SP} {cs : List SC} (h : Merged B L R lp rp cs) : Steps (tabB B.length lp) (tabB B.length rp) B.length L.length R.length 0 0 0 cs :=
 steps_of h.ml.tab.1 h.mr.tab.1 h.sw (by omega) (by omega) (by omega) (by omega) (by omega) (by omega)
theorem merged_ex (B L R : List ByteArray) (hB : B.length ≤ 1000000000) (hL : L.length ≤ 1000000000) (hR : R.length ≤ 1000000000) (sB : ∀ s ∈ B, s.size ≤ 4000000000) (sL : ∀ s ∈ L, s.size ≤ 4000000000) (sR : ∀ s ∈ R, s.size ≤ 4000000000) : ∃ lp rp cs, Merged B L R lp rp cs := by
 obtain ⟨lp, h1⟩ := matched_ex B L hB hL sB sL
 obtain ⟨rp, h2⟩ := matched_ex B R hB hR sB sR
 obtain ⟨cs, h3⟩ := sweep_ex h1.tab.1 h2.tab.1 (B.length + L.length + R.length) 0 0 0 (by omega) (by omega) (by omega) (by omega) (by omega) (by omega) (by omega)
 exact ⟨lp, rp, cs, h1, h2, h3⟩
theorem chunk_count {x y : List Int} {base left right : Int} : ∀ {o a b : Int} {l : List SC}, Steps x y base left right o a b l → (l.length : Int) ≤ 2 * (base - o) + 1 ∧ (Tog x y base o a b 0 → (l.length : Int) ≤ 2 * (base - o)) := by
 intro o a b l h
 induction h with
 | done => exact ⟨by simp, fun _ => by simp⟩
 | cons h0 h1 h2 hc hl ih =>
  rename_i o a b o' a' b' c l
  have l1 := hc.le1
  simp only [List.length_cons]
  cases hf : c.f0 with
  | true =>
   have := hc.st hf
   exact ⟨by omega, fun _ => by omega⟩
  | false =>
   have hun := hc.un hf
   refine ⟨?_, fun ht => absurd ht hun⟩
   rcases hc.nx hf with ⟨rfl, rfl, rfl⟩ | g
   ·have : l = [] := by
     cases hl with
     | done => rfl
     | cons k0 k1 k2 kc _ =>
      have := kc.le1
      have := kc.le2
      have := kc.le3
      have := kc.some
      omega
    subst this
    simp
    omega
   ·have := ih.2 g
    omega
end Go.Proofs.Ytfiamddinkokbaa.F
end

section
set_option linter.unusedVariables false
set_option linter.unusedSimpArgs false
namespace Go.Proofs.Ytfiamddinkokbaa.F
open Go.RowKit Go.Shelf Go.Proofs.YtfiamddinkokbaaW.PrintWords
set_option linter.unusedVariables false
set_option linter.unusedSimpArgs false
theorem catB_cons (s : ByteArray) (l : List ByteArray) : (catB (s :: l)).size = s.size + (catB l).size := by
 unfold catB
 rw [size_toB, size_toB, List.flatMap_cons, List.length_append, size_data]
theorem catB_sub {l l' : List ByteArray} (h : l.Sublist l') : (catB l).size ≤ (catB l').size := by
 induction h with
 | slnil => exact Nat.le_refl _
 | cons s _ ih => rw [catB_cons]; omega
 | cons_cons s _ ih => rw [catB_cons, catB_cons]; omega
theorem catB_take_drop (l : List ByteArray) (n : Nat) : (catB (l.take n)).size + (catB (l.drop n)).size = (catB l).size := by
 conv => rhs; rw [← List.take_append_drop n l, catB_append, ByteArray.size_append]
theorem textPs_eq (l : List ByteArray) (hn : l.length ≤ 4000000000) (hs : (catB l).size ≤ 4000000000) : textPs l = some ([textR (catB l)].map to106) := by
 unfold textPs
 rw [lines_join l hn hs]; rfl
theorem hoist_le (st : Int) (l r : List ByteArray) : hoistN st l r + hoistM st l r ≤ l.length ∧ hoistN st l r + hoistM st l r ≤ r.length := ho_le st l r
theorem piece_eq (st fv : Int) (g0 g1 g2 : ByteArray) (k : Int) (b l r : List ByteArray) (nb : b.length ≤ 1000000000) (nl : l.length ≤ 1000000000) (nr : r.length ≤ 1000000000) (sb : (catB b).size ≤ 4000000000) (sl : (catB l).size ≤ 4000000000) (sr : (catB r).size ≤ 4000000000) :
  piecePs st fv g0 g1 g2 k b l r = some ((pieceR st fv g0 g1 g2 k b l r).map to106) := by
 unfold piecePs pieceR
 by_cases k0 : k = 0
 ·rw [if_pos k0, if_pos k0]; exact textPs_eq b (by omega) sb
 rw [if_neg k0, if_neg k0]
 by_cases k1 : k = 1 ∨ k = 3 ∨ (k = 4 ∧ fv = 1)
 ·rw [if_pos k1, if_pos k1]; exact textPs_eq l (by omega) sl
 rw [if_neg k1, if_neg k1]
 by_cases k2 : k = 2 ∨ fv = 3
 ·rw [if_pos k2, if_pos k2]; exact textPs_eq r (by omega) sr
 rw [if_neg k2, if_neg k2]
 unfold confPs
 have s1 := catB_sub (List.take_sublist (hoN st l r) l)
 have s2 := catB_sub (List.drop_sublist (l.length - hoM st l r) l)
 have s3 := catB_sub ((List.drop_sublist (hoN st l r) (l.take (l.length - hoM st l r))).trans (List.take_sublist _ l))
 have s4 := catB_sub ((List.drop_sublist (hoN st l r) (r.take (r.length - hoM st l r))).trans (List.take_sublist _ r))
 rw [if_pos ⟨by omega, by omega⟩, lines_join _ (by rw [List.length_take]; omega) (by omega), Option.bind_some]
 rw [lines_join (midS l (hoN st l r) (hoM st l r)) (by unfold midS; rw [List.length_drop, List.length_take]; omega) (by unfold midS; omega), Option.bind_some]
 rw [lines_join (midS r (hoN st l r) (hoM st l r)) (by unfold midS; rw [List.length_drop, List.length_take]; omega) (by unfold midS; omega), Option.bind_some]
 by_cases hst : st = 0
 ·rw [if_pos hst, Option.bind_some, lines_join _ (by rw [List.length_drop]; omega) (by omega), Option.bind_some]
  subst hst; rfl
 ·rw [if_neg hst, lines_join b (by omega) sb, Option.bind_some, lines_join _ (by rw [List.length_drop]; omega) (by omega), Option.bind_some]
  unfold hunkR hunkP
  rw [if_neg hst, if_neg hst]
  simp only [List.map_cons, List.map_nil, to106]
  rfl
theorem span_sub {α : Type} (s : SSp) (l : List α) : (spanL s l).Sublist l := by
 unfold spanL
 split
 ·exact List.nil_sublist _
 ·exact (List.drop_sublist _ _).trans (List.take_sublist _ _)
theorem ev_docL (B L R : List ByteArray) (st fv : Int) (g0 g1 g2 : ByteArray) (nB : B.length ≤ 1000000000) (nL : L.length ≤ 1000000000) (nR : R.length ≤ 1000000000) (sB : (catB B).size ≤ 4000000000) (sL : (catB L).size ≤ 4000000000) (sR : (catB R).size ≤ 4000000000) :
  ∀ (cs : List SC) (acc : List RP), acc.length + 3 * cs.length ≤ 1000000000 → Ev (fun k => docL k B L R st fv g0 g1 g2 cs (acc.map to106)) ((acc ++ cs.flatMap (partsR st fv g0 g1 g2 B L R)).map to106)
 | [], acc, h => by
  simp only [docL]
  exact Ev.val (by simp)
 | c :: cs, acc, h => by
  have h3 : (partsR st fv g0 g1 g2 B L R c).length ≤ 3 := by
   unfold partsR pieceR
   split
   ·simp
   ·split
    ·simp
    ·split <;> simp
  simp only [docL]
  simp only [List.length_cons] at h
  refine Ev.bind (ev_cut c B L R (by omega) (by omega) (by omega)) ?_
  have b1 := catB_sub (span_sub c.f1 B)
  have b2 := catB_sub (span_sub c.f2 L)
  have b3 := catB_sub (span_sub c.f3 R)
  have n1 := (span_sub c.f1 B).length_le
  have n2 := (span_sub c.f2 L).length_le
  have n3 := (span_sub c.f3 R).length_le
  have hpe : piecePs st fv g0 g1 g2 (clsI c B L R) (spanL c.f1 B) (spanL c.f2 L) (spanL c.f3 R) = some ((partsR st fv g0 g1 g2 B L R c).map to106) := piece_eq st fv g0 g1 g2 _ _ _ _ (by omega) (by omega) (by omega) (by omega) (by omega) (by omega)
  refine Ev.bind (a := (partsR st fv g0 g1 g2 B L R c).map to106) (Ev.const hpe) ?_
  refine Ev.pos (by rw [List.length_map]; omega) ?_
  rw [← List.map_append]
  refine (ev_docL B L R st fv g0 g1 g2 nB nL nR sB sL sR cs (acc ++ partsR st fv g0 g1 g2 B L R c) (by rw [List.length_append]; omega)).cast ?_
  rw [List.flatMap_cons, List.append_assoc]
theorem textSum_append (a b : List RP) : textSum (a ++ b) = textSum a + textSum b := by unfold textSum; rw [List.map_append, List.sum_append]
theorem piece_sum (st fv : Int) (g0 g1 g2 : ByteArray) (k : Int) (b l r : List ByteArray) : textSum (pieceR st fv g0 g1 g2 k b l r) ≤ (catB b).size + (catB l).size + (catB r).size := by
 have one : ∀ s : ByteArray, textSum [textR s] = s.size := fun s => by unfold textSum; simp [textR]
 unfold pieceR
 split
 ·rw [one]; omega
 ·split
  ·rw [one]; omega
  ·split
   ·rw [one]; omega
   ·have h1 := hoist_le st l r
    have h2 := catB_take_drop l (hoistN st l r)
    have h3 : (catB (l.drop (l.length - hoistM st l r))).size ≤ (catB (l.drop (hoistN st l r))).size := catB_sub (by
     rw [show l.length - hoistM st l r = hoistN st l r + (l.length - hoistM st l r - hoistN st l r) by omega, ← List.drop_drop]
     exact List.drop_sublist _ _)
    have e0 : (⟨#[]⟩ : ByteArray).size = 0 := rfl
    unfold textSum
    simp [textR, hunkR]
    omega
theorem parts_sum (st fv : Int) (g0 g1 g2 : ByteArray) (B L R : List ByteArray) : ∀ cs : List SC, textSum (cs.flatMap (partsR st fv g0 g1 g2 B L R)) ≤ (catB (cs.flatMap fun c => spanL c.f1 B)).size + (catB (cs.flatMap fun c => spanL c.f2 L)).size + (catB (cs.flatMap fun c => spanL c.f3 R)).size
 | [] => by simp [textSum]
 | c :: cs => by
  rw [List.flatMap_cons, textSum_append, List.flatMap_cons, List.flatMap_cons, List.flatMap_cons, catB_append, catB_append, catB_append, ByteArray.size_append, ByteArray.size_append, ByteArray.size_append]
  have h1 := parts_sum st fv g0 g1 g2 B L R cs
  have h2 : textSum (partsR st fv g0 g1 g2 B L R c) ≤ _ := piece_sum st fv g0 g1 g2 (clsI c B L R) (spanL c.f1 B) (spanL c.f2 L) (spanL c.f3 R)
  omega
theorem parts_len (st fv : Int) (g0 g1 g2 : ByteArray) (B L R : List ByteArray) : ∀ cs : List SC, (cs.flatMap (partsR st fv g0 g1 g2 B L R)).length ≤ 3 * cs.length
 | [] => by simp
 | c :: cs => by
  rw [List.flatMap_cons, List.length_append, List.length_cons]
  have h1 := parts_len st fv g0 g1 g2 B L R cs
  have h3 : (partsR st fv g0 g1 g2 B L R c).length ≤ 3 := by
   unfold partsR pieceR
   split
   ·simp
   ·split
    ·simp
    ·split <;> simp
  omega
structure Okay (g0 g1 g2 : ByteArray) (st wd fv : Int) : Prop where
 lab : lineless g0 = false ∧ lineless g1 = false ∧ lineless g2 = false
 labs : g0.size + g1.size + g2.size ≤ 1000000000
 sty : 0 ≤ st ∧ st ≤ 2
 wid : 7 ≤ wd ∧ wd ≤ 64
 fav : fv = 0 ∨ fv = 1 ∨ fv = 3
theorem okay_plain {g0 g1 g2 : ByteArray} {st wd fv : Int} (h : Okay g0 g1 g2 st wd fv) : doc_Labels_Plain.f g0 g1 g2 = some true := by
 rw [labels_plain g0 g1 g2 (by have := h.labs; omega), h.lab.1, h.lab.2.1, h.lab.2.2]; rfl
theorem ev_build {B L R : List ByteArray} {lp rp : List SP} {cs : List SC} {g0 g1 g2 : ByteArray} {st wd fv : Int} (ho : Okay g0 g1 g2 st wd fv) (h : Merged B L R lp rp cs) (nB : B.length ≤ 100000000) (nL : L.length ≤ 100000000) (nR : R.length ≤ 100000000) (sB : (catB B).size ≤ 1000000000) (sL : (catB L).size ≤ 1000000000) (sR : (catB R).size ≤ 1000000000) :
  Ev (fun k => build_Doc.f k B L R cs st g0 g1 g2 fv) ((docB st fv g0 g1 g2 B L R cs).map to106, 0) := by
 have hlen := (chunk_count h.steps).1
 have hp := parts_len st fv g0 g1 g2 B L R cs
 have hs := parts_sum st fv g0 g1 g2 B L R cs
 obtain ⟨q1, q2, q3⟩ := steps_spans h.steps
 rw [q1, q2, q3, cut_all, cut_all, cut_all] at hs
 unfold build_Doc.f docF
 refine Ev.neg (by have := ho.sty; have := ho.fav; omega) (Ev.bind (Ev.const (okay_plain ho)) (Ev.pos rfl (Ev.bind ((ev_docL B L R st fv g0 g1 g2 (by omega) (by omega) (by omega) (by omega) (by omega) (by omega) cs [] (by simp only [List.length_nil]; omega))) (Ev.bind (ev_doc_of _ ?_ ?_) (Ev.val rfl)))))
 ·rw [List.nil_append]; omega
 ·rw [List.nil_append]; omega
theorem ev_wrong {g0 g1 g2 : ByteArray} {st wd fv n : Int} (ho : Okay g0 g1 g2 st wd fv) (hn : n ≤ 1073741824) : Ev (fun k => merge_Options_wrong.f k g0 g1 g2 st wd fv n) 0 := by
 have hw := ho.wid
 unfold merge_Options_wrong.f
 refine Ev.neg (by omega) (Ev.bind (Ev.const (okay_plain ho)) (Ev.pos rfl (Ev.neg (by omega) (Ev.neg (by omega) (Ev.bind (a := ([], 0)) ?_ (Ev.val rfl))))))
 unfold build_Doc.f docF
 refine Ev.neg (by have := ho.sty; have := ho.fav; omega) (Ev.bind (Ev.const (okay_plain ho)) (Ev.pos rfl (Ev.bind (a := ([] : List PP)) ?_ (Ev.bind (ev_doc_of [] (by simp) (by simp [textSum])) (Ev.val rfl)))))
 simp only [docL]
 exact Ev.val rfl
def widthB (wd : Int) (a b c : ByteArray) : Int := mx wd (mx (mx (textRun a) (textRun b)) (textRun c) + 1)
theorem ev_width {wd : Int} {a b c : ByteArray} (sa : a.size ≤ 1000000000) (sb : b.size ≤ 1000000000) (sc : c.size ≤ 1000000000) : Ev (fun k => doc_Width.f k wd [a, b, c]) (widthB wd a b c) := by
 refine (ev_doc_width wd [a, b, c] (by simp) (fun s hs => ?_)).cast ?_
 ·simp only [List.mem_cons, List.not_mem_nil, or_false] at hs
  rcases hs with rfl | rfl | rfl <;> omega
 ·have h1 := textRun_bound a
  have h2 := textRun_bound b
  have h3 := textRun_bound c
  unfold widthB
  have e : runAll [a, b, c] 0 = mx (mx (textRun a) (textRun b)) (textRun c) := by
   unfold runAll
   simp only [List.foldl_cons, List.foldl_nil]
   have : mx 0 (textRun a) = textRun a := by rcases mx_cases 0 (textRun a) with h | h <;> omega
   rw [this]
  rw [e, wrap_in]
  ·rcases mx_cases (textRun a) (textRun b) with h | h <;> rcases mx_cases (mx (textRun a) (textRun b)) (textRun c) with g | g <;> omega
  ·rcases mx_cases (textRun a) (textRun b) with h | h <;> rcases mx_cases (mx (textRun a) (textRun b)) (textRun c) with g | g <;> omega
theorem ev_texts {a b c g0 g1 g2 : ByteArray} {st wd fv : Int} {lp rp : List SP} {cs : List SC} (ho : Okay g0 g1 g2 st wd fv) (h : Merged (splitB a) (splitB b) (splitB c) lp rp cs) (hs : a.size + b.size + c.size ≤ 100000000)
  (hn : (docB st fv g0 g1 g2 (splitB a) (splitB b) (splitB c) cs).length ≤ 2000) (hx : ∀ x ∈ docB st fv g0 g1 g2 (splitB a) (splitB b) (splitB c) cs, sizesP x ≤ 1000000000) :
  Ev (fun k => textsF k a b c g0 g1 g2 st wd fv) ((docB st fv g0 g1 g2 (splitB a) (splitB b) (splitB c) cs).map to106, lp, rp, cs, (printP (docB st fv g0 g1 g2 (splitB a) (splitB b) (splitB c) cs) (widthB wd a b c)).1, widthB wd a b c, countB (splitB a) (splitB b) (splitB c) cs, 0) := by
 have na := splitB_length a
 have nb := splitB_length b
 have nc := splitB_length c
 have ca : (catB (splitB a)).size = a.size := by rw [cat_split]
 have cb : (catB (splitB b)).size = b.size := by rw [cat_split]
 have cc : (catB (splitB c)).size = c.size := by rw [cat_split]
 have hlen := (chunk_count h.steps).1
 have hof := ev_chunk_of (nB := (splitB a).length) (nL := (splitB b).length) (nR := (splitB c).length) (h.ml.rises) (h.mr.rises) h.ml.tab.1 h.mr.tab.1 (by omega) (by omega) (by omega) (by have := h.ml.lele; omega) (by have := h.mr.lele; omega) h.sw
 unfold textsF
 refine Ev.pos ⟨by omega, by omega, by omega⟩ (Ev.bind (ev_wrong ho (by omega)) (Ev.pos rfl (Ev.bind (Ev.const (lines_split a (by omega))) (Ev.bind (Ev.const (lines_split b (by omega))) (Ev.bind (Ev.const (lines_split c (by omega))) (Ev.bind (Ev.const h.ml.eq) (Ev.bind (Ev.const h.mr.eq) (Ev.bind (ev_width (by omega) (by omega) (by omega)) (Ev.bind hof
  (Ev.bind (ev_build ho h (by omega) (by omega) (by omega) (by omega) (by omega) (by omega)) (Ev.bind (ev_mark_print _ _ hn hx) (Ev.bind (ev_count _ _ _ (by omega) (by omega) (by omega) cs (by omega)) (Ev.val rfl)))))))))))))
end Go.Proofs.Ytfiamddinkokbaa.F
end

section
set_option linter.unusedVariables false
set_option linter.unusedSimpArgs false
namespace Go.Proofs.Ytfiamddinkokbaa.F
open Go.RowKit Go.Shelf Go.Proofs.YtfiamddinkokbaaW.PrintWords
set_option linter.unusedVariables false
set_option linter.unusedSimpArgs false
theorem mn_250 (n : Nat) : 0 ≤ mn (n : Int) 250 ∧ mn (n : Int) 250 ≤ n ∧ mn (n : Int) 250 ≤ 250 := by unfold mn; split <;> omega
theorem short_f (a : ByteArray) : ∃ s, tripartitelaw12_Short.f a = some s ∧ s.size ≤ 250 := by
 have h := mn_250 a.size
 unfold tripartitelaw12_Short.f
 rw [if_pos h.1, if_pos h.2.1]
 refine ⟨_, rfl, ?_⟩
 rw [ByteArray.size_extract]
 omega
theorem few_f (x y z : Int) (a b c : ByteArray) (ha : a.size ≤ 140737488351232) (hb : b.size ≤ 140737488351232) (hc : c.size ≤ 140737488351232) : tripartitelaw12_few.f x y z a b c = some (decide (a.size + b.size + c.size ≤ 500)) := by
 unfold tripartitelaw12_few.f
 rw [wrap_in (n := (a.size : Int) + b.size) (by omega) (by omega), wrap_in (by omega) (by omega)]
 congr 1
 exact decide_eq_decide.2 (by omega)
theorem bare_in (a : ByteArray) (hs : a.size ≤ 4000000000) : ∀ (rest done : List UInt8) (i : Int), a.data.toList = done ++ rest → i = done.length → (10 : UInt8) ∉ done → ∃ s, s.size ≤ a.size ∧ lineless s = false ∧ Ev (fun k => tripartitelaw12_bare.l0 k a i) s
 | [], done, i, hd, hi, hn => by
  refine ⟨a, Nat.le_refl _, ?_, ?_⟩
  ·rw [lineless_iff, hd, List.append_nil]; exact decide_eq_false hn
  ·refine Ev.succ ?_
   simp only [tripartitelaw12_bare.l0]
   exact Ev.neg (by have := size_data a; rw [hd] at this; simp at this; omega) (Ev.val rfl)
 | c :: rest, done, i, hd, hi, hn => by
  have hsz : a.size = done.length + (rest.length + 1) := by rw [← size_data a, hd]; simp
  have hw : wrap64 (i + 1) = i + 1 := wrap_in (by omega) (by omega)
  have hbt := bytes_bt a i done rest c hd hi
  by_cases hc : c = 10
  ·subst hc
   refine ⟨a.extract 0 i.toNat, by rw [ByteArray.size_extract]; omega, ?_, ?_⟩
   ·rw [lineless_iff, extract_data, hd, List.drop_zero, show i.toNat = done.length by omega, List.take_left']
    ·exact decide_eq_false hn
    ·rfl
   ·refine Ev.succ ?_
    simp only [tripartitelaw12_bare.l0, hbt]
    exact Ev.pos (by omega) (Ev.pos (by omega) (Ev.pos rfl (Ev.pos (by omega) (Ev.val rfl))))
  ·obtain ⟨s, h1, h2, h3⟩ := bare_in a hs rest (done ++ [c]) (i + 1) (by rw [hd]; simp) (by simp; omega) (by simp [hn]; exact fun e => hc e.symm)
   refine ⟨s, h1, h2, Ev.succ ?_⟩
   simp only [tripartitelaw12_bare.l0, hw, hbt]
   refine Ev.pos (by omega) (Ev.pos (by omega) (Ev.neg (fun e => hc ?_) h3))
   exact UInt8.toNat_inj.1 (by rw [show (10 : UInt8).toNat = 10 from rfl]; omega)
theorem ev_bare (a : ByteArray) (hs : a.size ≤ 4000000000) : ∃ s, s.size ≤ a.size ∧ lineless s = false ∧ Ev (fun k => tripartitelaw12_bare.f k a) s := bare_in a hs a.data.toList [] 0 rfl rfl (by simp)
theorem u64_nonneg (x : Int) : 0 ≤ IntKind.u64.wrap x := by
 have : IntKind.u64.wrap x = x % 18446744073709551616 := rfl
 rw [this]; omega
theorem ev_options (st wd fv : Int) (a b c : ByteArray) (hs : a.size + b.size + c.size ≤ 500) : ∃ (g0 g1 g2 : ByteArray) (st' wd' : Int), Okay g0 g1 g2 st' wd' 0 ∧ Ev (fun k => tripartitelaw12_Options.f k st wd fv a b c) (g0, g1, g2, st', wd', 0) := by
 obtain ⟨g0, s0, l0, e0⟩ := ev_bare a (by omega)
 obtain ⟨g1, s1, l1, e1⟩ := ev_bare b (by omega)
 obtain ⟨g2, s2, l2, e2⟩ := ev_bare c (by omega)
 have u1 := u64_nonneg st
 have u2 := u64_nonneg wd
 have t1 : 0 ≤ Int.tmod (IntKind.u64.wrap st) 3 ∧ Int.tmod (IntKind.u64.wrap st) 3 < 3 := by rw [Int.tmod_eq_emod_of_nonneg u1]; omega
 have t2 : 0 ≤ Int.tmod (IntKind.u64.wrap wd) 58 ∧ Int.tmod (IntKind.u64.wrap wd) 58 < 58 := by rw [Int.tmod_eq_emod_of_nonneg u2]; omega
 have w1 : wrap64 (Int.tmod (IntKind.u64.wrap st) 3) = Int.tmod (IntKind.u64.wrap st) 3 := wrap_in (by omega) (by omega)
 have w2 : wrap64 (Int.tmod (IntKind.u64.wrap wd) 58) = Int.tmod (IntKind.u64.wrap wd) 58 := wrap_in (by omega) (by omega)
 have w3 : wrap64 (7 + Int.tmod (IntKind.u64.wrap wd) 58) = 7 + Int.tmod (IntKind.u64.wrap wd) 58 := wrap_in (by omega) (by omega)
 refine ⟨g0, g1, g2, Int.tmod (IntKind.u64.wrap st) 3, 7 + Int.tmod (IntKind.u64.wrap wd) 58, ⟨⟨l0, l1, l2⟩, by omega, by omega, by omega, .inl rfl⟩, ?_⟩
 unfold tripartitelaw12_Options.f
 refine Ev.bind (a := (a, b, c, false, ⟨#[]⟩, ⟨#[]⟩, ⟨#[]⟩, ⟨#[]⟩, false)) (Ev.const ?_) (Ev.bind e0 (Ev.bind e1 (Ev.bind e2 (Ev.val ?_))))
 ·rfl
 ·rw [w1, w2, w3]
theorem steps_base2 {x y : List Int} {base left : Int} (hy : ∀ i : Int, 0 ≤ i → i < base → rd y i = i) : ∀ {o a b : Int} {cs : List SC}, Steps x y base left base o a b cs → o = b → ∀ c ∈ cs, c.f1 = c.f3 := by
 intro o a b cs h he
 refine steps_all (P := fun c => c.f1 = c.f3) (fun o a b => o = b) ?_ h he
 rintro o a b o' a' b' c h0 h1 h2 hc rfl
 have key : o' = b' := by
  cases hf : c.f0 with
  | true => have := hc.st hf; omega
  | false =>
   rcases hc.nx hf with g | g
   ·omega
   ·have := g.2.2
    have l1 := hc.le1
    rw [show o' + 0 = o' by omega, hy o' (by omega) (by have := g.1; omega)] at this
    omega
 subst key
 exact ⟨by rw [hc.sp1, hc.sp3], rfl⟩
theorem merged_stable {B L R : List ByteArray} {lp rp : List SP} {cs : List SC} (h : Merged B L R lp rp cs) : ∀ c ∈ cs, c.f0 = true → spanL c.f1 B = spanL c.f2 L ∧ spanL c.f1 B = spanL c.f3 R :=
 steps_all (P := fun c => c.f0 = true → spanL c.f1 B = spanL c.f2 L ∧ spanL c.f1 B = spanL c.f3 R) (fun _ _ _ => True) (fun h0 h1 h2 hc _ => ⟨fun hs => chunk_stable h.ml.tab h.mr.tab h0 h1 h2 hc hs, trivial⟩) h.steps trivial
theorem parts_left {B R : List ByteArray} {lp rp : List SP} {cs : List SC} (h : Merged B B R lp rp cs) (st fv : Int) (g0 g1 g2 : ByteArray) : ∀ c ∈ cs, partsR st fv g0 g1 g2 B B R c = [textR (catB (spanL c.f3 R))] ∧ clsI c B B R ≠ 4 := by
 intro c hc
 have hb := steps_base (matched_self h.ml) h.steps rfl c hc
 unfold partsR clsI
 by_cases h0 : c.f0 = true
 ·rw [if_pos h0]
  have := (merged_stable h c hc h0).2
  exact ⟨by unfold pieceR; rw [if_pos rfl, this], by decide⟩
 ·rw [if_neg h0, if_pos (by rw [hb])]
  exact ⟨rfl, by decide⟩
theorem parts_right {B L : List ByteArray} {lp rp : List SP} {cs : List SC} (h : Merged B L B lp rp cs) (st fv : Int) (g0 g1 g2 : ByteArray) : ∀ c ∈ cs, partsR st fv g0 g1 g2 B L B c = [textR (catB (spanL c.f2 L))] ∧ clsI c B L B ≠ 4 := by
 intro c hc
 have hb := steps_base2 (matched_self h.mr) h.steps rfl c hc
 unfold partsR clsI
 by_cases h0 : c.f0 = true
 ·rw [if_pos h0]
  have := (merged_stable h c hc h0).1
  exact ⟨by unfold pieceR; rw [if_pos rfl, this], by decide⟩
 ·rw [if_neg h0]
  by_cases h1 : spanL c.f1 B = spanL c.f2 L
  ·rw [if_pos h1]
   exact ⟨by rw [← h1, hb]; rfl, by decide⟩
  ·rw [if_neg h1, if_pos (by rw [hb])]
   exact ⟨rfl, by decide⟩
theorem parts_both {B L : List ByteArray} {lp rp : List SP} {cs : List SC} (h : Merged B L L lp rp cs) (st fv : Int) (g0 g1 g2 : ByteArray) : ∀ c ∈ cs, partsR st fv g0 g1 g2 B L L c = [textR (catB (spanL c.f2 L))] ∧ clsI c B L L ≠ 4 := by
 intro c hc
 have hst := h.steps
 rw [h.ml.unique h.mr] at hst
 have hb := steps_both hst rfl c hc
 unfold partsR clsI
 by_cases h0 : c.f0 = true
 ·rw [if_pos h0]
  have := (merged_stable h c hc h0).1
  exact ⟨by unfold pieceR; rw [if_pos rfl, this], by decide⟩
 ·rw [if_neg h0]
  by_cases h1 : spanL c.f1 B = spanL c.f2 L
  ·rw [if_pos h1]
   exact ⟨by rw [hb]; rfl, by decide⟩
  ·rw [if_neg h1, if_neg (by rw [← hb]; exact h1), if_pos (by rw [hb])]
   exact ⟨rfl, by decide⟩
theorem count_none {B L R : List ByteArray} {cs : List SC} (h : ∀ c ∈ cs, clsI c B L R ≠ 4) : countB B L R cs = 0 := by
 unfold countB
 rw [List.filter_eq_nil_iff.2 (fun c hc => by simpa using h c hc)]; rfl
theorem widthB_lt {wd : Int} {a b c : ByteArray} : textRun a < widthB wd a b c ∧ textRun b < widthB wd a b c ∧ textRun c < widthB wd a b c := by
 unfold widthB
 rcases mx_cases (textRun a) (textRun b) with h | h <;> rcases mx_cases (mx (textRun a) (textRun b)) (textRun c) with g | g <;> rcases mx_cases wd (mx (mx (textRun a) (textRun b)) (textRun c) + 1) with f | f <;> omega
theorem widthB_le {wd : Int} {a b c : ByteArray} (hw : wd ≤ 64) (hs : a.size + b.size + c.size ≤ 100000000) : widthB wd a b c ≤ 1073741824 := by
 have h1 := textRun_bound a
 have h2 := textRun_bound b
 have h3 := textRun_bound c
 unfold widthB
 rcases mx_cases (textRun a) (textRun b) with h | h <;> rcases mx_cases (mx (textRun a) (textRun b)) (textRun c) with g | g <;> rcases mx_cases wd (mx (mx (textRun a) (textRun b)) (textRun c) + 1) with f | f <;> omega
theorem ev_texts_one {a b c g0 g1 g2 t : ByteArray} {st wd fv : Int} {lp rp : List SP} {cs : List SC} (ho : Okay g0 g1 g2 st wd fv) (h : Merged (splitB a) (splitB b) (splitB c) lp rp cs) (hs : a.size + b.size + c.size ≤ 100000000) (g : SC → List ByteArray)
  (hg : ∀ x ∈ cs, partsR st fv g0 g1 g2 (splitB a) (splitB b) (splitB c) x = [textR (catB (g x))] ∧ clsI x (splitB a) (splitB b) (splitB c) ≠ 4) (ht : catB (cs.flatMap g) = t) (hts : t.size ≤ 100000000) (hr : textRun t < widthB wd a b c) :
  ∃ d, Ev (fun k => textsF k a b c g0 g1 g2 st wd fv) (d, lp, rp, cs, t, widthB wd a b c, 0, 0) := by
 have hd := doc_texts g (fun x hx => (hg x hx).1)
 rw [ht] at hd
 have hev := ev_texts ho h hs (by rw [hd]; split <;> simp) (by
  intro x hx
  rw [hd] at hx
  split at hx
  ·cases hx
  ·obtain rfl := List.mem_singleton.1 hx
   have e0 : (⟨#[]⟩ : ByteArray).size = 0 := rfl
   unfold sizesP textR
   simp only
   omega)
 rw [hd, print_text hr (widthB_le ho.wid.2 hs), count_none (fun c hc => (hg c hc).2)] at hev
 exact ⟨_, hev⟩
theorem merged_of (a b c : ByteArray) (ha : a.size ≤ 100000000) (hb : b.size ≤ 100000000) (hc : c.size ≤ 100000000) : ∃ lp rp cs, Merged (splitB a) (splitB b) (splitB c) lp rp cs := by
 have h1 := splitB_length a
 have h2 := splitB_length b
 have h3 := splitB_length c
 exact merged_ex _ _ _ (by omega) (by omega) (by omega) (fun s hs => by have := splitB_mem a s hs; omega) (fun s hs => by have := splitB_mem b s hs; omega) (fun s hs => by have := splitB_mem c s hs; omega)
theorem merged_cat {a b c : ByteArray} {lp rp : List SP} {cs : List SC} (h : Merged (splitB a) (splitB b) (splitB c) lp rp cs) :
  catB (cs.flatMap fun x => spanL x.f1 (splitB a)) = a ∧ catB (cs.flatMap fun x => spanL x.f2 (splitB b)) = b ∧ catB (cs.flatMap fun x => spanL x.f3 (splitB c)) = c := by
 obtain ⟨q1, q2, q3⟩ := steps_spans h.steps
 rw [q1, q2, q3, cut_all, cut_all, cut_all, cat_split, cat_split, cat_split]
 exact ⟨rfl, rfl, rfl⟩
theorem ev_texts_left {a c g0 g1 g2 : ByteArray} {st wd fv : Int} (ho : Okay g0 g1 g2 st wd fv) (ha : a.size ≤ 10000000) (hc : c.size ≤ 10000000) :
  ∃ d lp rp cs, Merged (splitB a) (splitB a) (splitB c) lp rp cs ∧ Ev (fun k => textsF k a a c g0 g1 g2 st wd fv) (d, lp, rp, cs, c, widthB wd a a c, 0, 0) := by
 obtain ⟨lp, rp, cs, h⟩ := merged_of a a c (by omega) (by omega) (by omega)
 obtain ⟨d, hd⟩ := ev_texts_one ho h (by omega) (fun x => spanL x.f3 (splitB c)) (parts_left h st fv g0 g1 g2) (merged_cat h).2.2 (by omega) widthB_lt.2.2
 exact ⟨d, lp, rp, cs, h, hd⟩
theorem ev_texts_right {a b g0 g1 g2 : ByteArray} {st wd fv : Int} (ho : Okay g0 g1 g2 st wd fv) (ha : a.size ≤ 10000000) (hb : b.size ≤ 10000000) :
  ∃ d lp rp cs, Merged (splitB a) (splitB b) (splitB a) lp rp cs ∧ Ev (fun k => textsF k a b a g0 g1 g2 st wd fv) (d, lp, rp, cs, b, widthB wd a b a, 0, 0) := by
 obtain ⟨lp, rp, cs, h⟩ := merged_of a b a (by omega) (by omega) (by omega)
 obtain ⟨d, hd⟩ := ev_texts_one ho h (by omega) (fun x => spanL x.f2 (splitB b)) (parts_right h st fv g0 g1 g2) (merged_cat h).2.1 (by omega) widthB_lt.2.1
 exact ⟨d, lp, rp, cs, h, hd⟩
theorem ev_texts_both {a b g0 g1 g2 : ByteArray} {st wd fv : Int} (ho : Okay g0 g1 g2 st wd fv) (ha : a.size ≤ 10000000) (hb : b.size ≤ 10000000) :
  ∃ d lp rp cs, Merged (splitB a) (splitB b) (splitB b) lp rp cs ∧ Ev (fun k => textsF k a b b g0 g1 g2 st wd fv) (d, lp, rp, cs, b, widthB wd a b b, 0, 0) := by
 obtain ⟨lp, rp, cs, h⟩ := merged_of a b b (by omega) (by omega) (by omega)
 obtain ⟨d, hd⟩ := ev_texts_one ho h (by omega) (fun x => spanL x.f2 (splitB b)) (parts_both h st fv g0 g1 g2) (merged_cat h).2.1 (by omega) widthB_lt.2.1
 exact ⟨d, lp, rp, cs, h, hd⟩
end Go.Proofs.Ytfiamddinkokbaa.F
end

section
set_option linter.unusedVariables false
set_option linter.unusedSimpArgs false
namespace Go.Proofs.Ytfiamddinkokbaa.F
open Go.RowKit Go.Shelf Go.Proofs.YtfiamddinkokbaaW.PrintWords
set_option linter.unusedVariables false
set_option linter.unusedSimpArgs false
def Told8 (w : World) (t : ByteArray) (wd n ec : Int) (cs : List SC) (e : Ending) (w' : World) : Prop := ∃ (A0 A1 A2 A3 : Option Addr) (n0 c0 n1 c1 n2 c2 c3 : Nat), e = .returned (.tuple #[.agg #[.slice A0 n0 c0, .slice A1 n1 c1, .slice A2 n2 c2, .slice A3 cs.length c3, .string t, .int .i64 wd, .int .i64 n], .int .i64 ec]) ∧ Kd.R k91 91 w' w.heap.size (fun _ => True) (.slice A3 cs.length c3) cs ∧ Below w.heap.size w w'
theorem texts_told {k : Nat} {a b c g0 g1 g2 : ByteArray} {st wd fv : Int} {d : List PP} {lp rp : List SP} {cs : List SC} {t : ByteArray} {W6 n ec : Int} (h : textsF k a b c g0 g1 g2 st wd fv = some (d, lp, rp, cs, t, W6, n, ec)) (w : World) :
  Calls Try.prog 58 #[.string a, .string b, .string c, .agg #[.string g0, .string g1, .string g2, .int .i64 st, .int .i64 wd, .int .i64 fv]] w (Told8 w t W6 n ec cs) := by
 refine (texts_calls k a b c g0 g1 g2 st wd fv d lp rp cs t W6 n ec w h).mono ?_
 rintro e w' ⟨v0, v1, v2, v3, rfl, h0, h1, h2, h3, hb⟩
 obtain ⟨A0, c0, rfl⟩ := Kd.R_slice h0
 obtain ⟨A1, c1, rfl⟩ := Kd.R_slice h1
 obtain ⟨A2, c2, rfl⟩ := Kd.R_slice h2
 obtain ⟨A3, c3, rfl⟩ := Kd.R_slice h3
 exact ⟨A0, A1, A2, A3, _, c0, _, c1, _, c2, c3, rfl, h3, hb⟩
theorem few_bool {st wd fv : Int} {g0 g1 g2 : ByteArray} (s0 : g0.size ≤ 140737488351232) (s1 : g1.size ≤ 140737488351232) (s2 : g2.size ≤ 140737488351232) (W : World) :
  Calls Try.prog 68 #[.agg #[.int .i64 st, .int .i64 wd, .int .i64 fv, .string g0, .string g1, .string g2]] W fun e w' => e = .returned (.bool (decide (g0.size + g1.size + g2.size ≤ 500))) ∧ Below W.heap.size W w' :=
 tripartitelaw12_few.calls st wd fv g0 g1 g2 _ W (few_f st wd fv g0 g1 g2 s0 s1 s2)
set_option maxHeartbeats 8000000 in
set_option maxRecDepth 100000 in
theorem sames_no {a b g0 g1 g2 : ByteArray} {st wd fv : Int} {w : World} (s0 : g0.size ≤ 140737488351232) (s1 : g1.size ≤ 140737488351232) (s2 : g2.size ≤ 140737488351232) (hf : ¬ g0.size + g1.size + g2.size ≤ 500) :
  Calls Try.prog 15 #[.string a, .string b, .agg #[.int .i64 st, .int .i64 wd, .int .i64 fv, .string g0, .string g1, .string g2]] w fun e w' => e = .returned (.bool true) ∧ Below w.heap.size w w' := by
 have HF := Aside0.mk (fun W => few_bool (st := st) (wd := wd) (fv := fv) s0 s1 s2 W)
 rw [decide_eq_false hf] at HF
 have HT := Aside0.mk (fun W => told12_calls W)
 clear s0 s1 s2 hf
 go_enter Try.func15, Try.ntmps15
 go_wp2_with (first
  | (go_at_call 68; (with_reducible refine (HF.out _).mono ?_); rintro e w1 ⟨rfl, hb⟩; have HB := Aside0.mk (below_step (below_alloc (Below.refl _ _) _) hb); clear hb)
  | (go_at_call 69; (with_reducible refine (HT.out _).mono ?_); rintro e w2 ⟨rfl, hb⟩; have HB2 := Aside0.mk (below_step HB.out hb); clear hb))
 go_ret
 exact ⟨rfl, HB2.out⟩
set_option maxHeartbeats 16000000 in
set_option maxRecDepth 100000 in
theorem sames_yes {a b g0 g1 g2 : ByteArray} {st wd fv : Int} {w : World} (s0 : g0.size ≤ 140737488351232) (s1 : g1.size ≤ 140737488351232) (s2 : g2.size ≤ 140737488351232) (hf : g0.size + g1.size + g2.size ≤ 500) :
  Calls Try.prog 15 #[.string a, .string b, .agg #[.int .i64 st, .int .i64 wd, .int .i64 fv, .string g0, .string g1, .string g2]] w fun e w' => e = .returned (.bool true) ∧ Below w.heap.size w w' := by
 have HF := Aside0.mk (fun W => few_bool (st := st) (wd := wd) (fv := fv) s0 s1 s2 W)
 rw [decide_eq_true hf] at HF
 have HT := Aside0.mk (fun W => told12_calls W)
 obtain ⟨x, hx, sx⟩ := short_f a
 obtain ⟨y, hy, sy⟩ := short_f b
 have HX := Aside0.mk (fun W => tripartitelaw12_Short.calls a x W hx)
 have HY := Aside0.mk (fun W => tripartitelaw12_Short.calls b y W hy)
 obtain ⟨l0, l1, l2, st', wd', ho, he⟩ := ev_options st wd fv g0 g1 g2 hf
 obtain ⟨ko, hk⟩ := he.get
 have HO := Aside0.mk (fun W => tripartitelaw12_Options.calls ko st wd fv g0 g1 g2 l0 l1 l2 st' wd' 0 W hk)
 obtain ⟨d1, lp1, rp1, cs1, _, e1⟩ := ev_texts_left (a := x) (c := y) ho (by omega) (by omega)
 obtain ⟨d2, lp2, rp2, cs2, _, e2⟩ := ev_texts_right (a := x) (b := y) ho (by omega) (by omega)
 obtain ⟨d3, lp3, rp3, cs3, _, e3⟩ := ev_texts_both (a := x) (b := y) ho (by omega) (by omega)
 obtain ⟨k1, h1⟩ := e1.get
 obtain ⟨k2, h2⟩ := e2.get
 obtain ⟨k3, h3⟩ := e3.get
 have H1 := Aside0.mk (fun W => texts_told h1 W)
 have H2 := Aside0.mk (fun W => texts_told h2 W)
 have H3 := Aside0.mk (fun W => texts_told h3 W)
 have tk1 : True := trivial
 have tk2 : True := trivial
 clear s0 s1 s2 hf hx sx hy sy ho he hk e1 e2 e3 h1 h2 h3
 generalize widthB wd' x x y = W1 at *
 generalize widthB wd' x y x = W2 at *
 generalize widthB wd' x y y = W3 at *
 go_enter Try.func15, Try.ntmps15
 go_wp2_with (first
  | (go_at_call 68; (with_reducible refine (HF.out _).mono ?_); rintro e w1 ⟨rfl, hb⟩; have HB := Aside0.mk (below_step (below_alloc (Below.refl _ _) _) hb); have HX5 := Aside0.mk (after_alloc hb); clear hb)
  | (go_at_call 57; have _t := tk1; (with_reducible refine (HX.out _).mono ?_); rintro e w2 ⟨rfl, hb⟩; clear tk1; have HB2 := Aside0.mk (below_step HB.out hb); have HX52 := Aside0.mk (after_call hb HX5.out); clear hb)
  | (go_at_call 57; have _t := tk2; (with_reducible refine (HY.out _).mono ?_); rintro e w3 ⟨rfl, hb⟩; clear tk2; have HB3 := Aside0.mk (below_step HB2.out hb); have HX53 := Aside0.mk (after_call hb HX52.out); have m0 := (blk_cell HX53.out 0).trans (rfl : _ = some (Value.int .i64 st)); have m1 := (blk_cell HX53.out 1).trans (rfl : _ = some (Value.int .i64 wd)); have m2 := (blk_cell HX53.out 2).trans (rfl : _ = some (Value.int .i64 fv)); have m3 := (blk_cell HX53.out 3).trans (rfl : _ = some (Value.string g0)); have m4 := (blk_cell HX53.out 4).trans (rfl : _ = some (Value.string g1)); have m5 := (blk_cell HX53.out 5).trans (rfl : _ = some (Value.string g2)); clear hb)
  | (go_at_call 59; (with_reducible refine (HO.out _).mono ?_); rintro e w4 ⟨rfl, hb⟩; have HB4 := Aside0.mk (below_step HB3.out hb); clear hb m0 m1 m2 m3 m4 m5)
  | (go_at_call 58; (with_reducible refine (H1.out _).mono ?_); rintro e w5 ⟨A0, A1, A2, A3, n0, c0, n1, c1, n2, c2, c3, rfl, hr, hb⟩; have HB5 := Aside0.mk (below_step (below_alloc HB4.out _) hb); have HO5 := Aside0.mk (after_alloc hb); clear hb hr; have o0 : ∀ o, (w5.alloc o).cell? ⟨w4.heap.size, 0, none⟩ = some (Value.string l0) := fun o => tr1 o ((blk_cell HO5.out 0).trans rfl); have o1 : ∀ o, (w5.alloc o).cell? ⟨w4.heap.size, 1, none⟩ = some (Value.string l1) := fun o => tr1 o ((blk_cell HO5.out 1).trans rfl); have o2 : ∀ o, (w5.alloc o).cell? ⟨w4.heap.size, 2, none⟩ = some (Value.string l2) := fun o => tr1 o ((blk_cell HO5.out 2).trans rfl); have o3 : ∀ o, (w5.alloc o).cell? ⟨w4.heap.size, 3, none⟩ = some (Value.int .i64 st') := fun o => tr1 o ((blk_cell HO5.out 3).trans rfl); have o4 : ∀ o, (w5.alloc o).cell? ⟨w4.heap.size, 4, none⟩ = some (Value.int .i64 wd') := fun o => tr1 o ((blk_cell HO5.out 4).trans rfl); have o5 : ∀ o, (w5.alloc o).cell? ⟨w4.heap.size, 5, none⟩ = some (Value.int .i64 0) := fun o => tr1 o ((blk_cell HO5.out 5).trans rfl))
  | (go_at_call 58; (with_reducible refine (H2.out _).mono ?_); rintro e w6 ⟨B0, B1, B2, B3, n0', c0', n1', c1', n2', c2', c3', rfl, hr, hb⟩; have HB6 := Aside0.mk (below_step (below_alloc HB5.out _) hb); have HO6 := Aside0.mk (after_call hb (blk_alloc HO5.out _)); have HR6 := Aside0.mk (after_alloc hb); clear hb hr o0 o1 o2 o3 o4 o5; have o0 : ∀ o, (w6.alloc o).cell? ⟨w4.heap.size, 0, none⟩ = some (Value.string l0) := fun o => tr1 o ((blk_cell HO6.out 0).trans rfl); have o1 : ∀ o, (w6.alloc o).cell? ⟨w4.heap.size, 1, none⟩ = some (Value.string l1) := fun o => tr1 o ((blk_cell HO6.out 1).trans rfl); have o2 : ∀ o, (w6.alloc o).cell? ⟨w4.heap.size, 2, none⟩ = some (Value.string l2) := fun o => tr1 o ((blk_cell HO6.out 2).trans rfl); have o3 : ∀ o, (w6.alloc o).cell? ⟨w4.heap.size, 3, none⟩ = some (Value.int .i64 st') := fun o => tr1 o ((blk_cell HO6.out 3).trans rfl); have o4 : ∀ o, (w6.alloc o).cell? ⟨w4.heap.size, 4, none⟩ = some (Value.int .i64 wd') := fun o => tr1 o ((blk_cell HO6.out 4).trans rfl); have o5 : ∀ o, (w6.alloc o).cell? ⟨w4.heap.size, 5, none⟩ = some (Value.int .i64 0) := fun o => tr1 o ((blk_cell HO6.out 5).trans rfl))
  | (go_at_call 58; (with_reducible refine (H3.out _).mono ?_); rintro e w7 ⟨D0, D1, D2, D3, m0', e0', m1', e1', m2', e2', e3', rfl, hr, hb⟩; have HB7 := Aside0.mk (below_step (below_alloc HB6.out _) hb); have HR7 := Aside0.mk (after_call hb (blk_alloc HR6.out _)); have HS7 := Aside0.mk (after_alloc hb); clear hb hr o0 o1 o2 o3 o4 o5)
  | (go_at_call 69; (with_reducible refine (HT.out _).mono ?_); rintro e w8 ⟨rfl, hb⟩; have HB8 := Aside0.mk (below_step (below_alloc HB7.out _) hb); have HR8 := after_call hb (blk_alloc HR7.out _); have HS8 := after_call hb (blk_alloc HS7.out _); have HU8 := after_alloc hb; have r4 := (blk_cell HR8 4).trans (rfl : _ = some (Value.string y)); have r6 := (blk_cell HR8 6).trans (rfl : _ = some (Value.int .i64 0)); have u4 := (blk_cell HS8 4).trans (rfl : _ = some (Value.string y)); have u6 := (blk_cell HS8 6).trans (rfl : _ = some (Value.int .i64 0)); have v4 := (blk_cell HU8 4).trans (rfl : _ = some (Value.string y)); have v6 := (blk_cell HU8 6).trans (rfl : _ = some (Value.int .i64 0)); clear hb HR8 HS8 HU8))
 go_ret
 exact ⟨rfl, HB8.out⟩
theorem mergeSames_walk (a b : ByteArray) (st wd fv : Int) (g0 g1 g2 : ByteArray) (s0 : g0.size ≤ 140737488351232) (s1 : g1.size ≤ 140737488351232) (s2 : g2.size ≤ 140737488351232) (w : World) :
  Calls Try.prog 15 #[.string a, .string b, .agg #[.int .i64 st, .int .i64 wd, .int .i64 fv, .string g0, .string g1, .string g2]] w fun e w' => e = .returned (.bool true) ∧ Below w.heap.size w w' := by
 by_cases hf : g0.size + g1.size + g2.size ≤ 500
 ·exact sames_yes s0 s1 s2 hf
 ·exact sames_no s0 s1 s2 hf
end Go.Proofs.Ytfiamddinkokbaa.F
end

section
set_option linter.unusedVariables false
set_option linter.unusedSimpArgs false
namespace Go.Proofs.Ytfiamddinkokbaa.F
open Go.RowKit Go.Proofs.YtfiamddinkokbaaW.PrintWords Go.ChangeShapes Go.WideShapes Go.Deep Go.Joins
set_option linter.unusedVariables false
set_option linter.unusedSimpArgs false
section
variable {H : Type} {enc : TypeId × Value → H}
theorem back_how (W : World) (b : Nat) (sp : Nat → Bool) (hd : Bool) (st wd fv : Int) (g0 g1 g2 : ByteArray) (w0 : (Lit.int .i64 st).wf = true) (w1 : (Lit.int .i64 wd).wf = true) (w2 : (Lit.int .i64 fv).wf = true) (s0 : g0.size ≤ maxLen) (s1 : g1.size ≤ maxLen) (s2 : g2.size ≤ maxLen) :
  DataW.Trod enc Try.prog W b sp hd 74 (.agg #[.int .i64 st, .int .i64 wd, .int .i64 fv, .string g0, .string g1, .string g2]) (.agg [.lit (.int .i64 st), .lit (.int .i64 wd), .lit (.int .i64 fv), .lit (.string g0.data.toList), .lit (.string g1.data.toList), .lit (.string g2.data.toList)]) [] := by
 have h3 := Try.underlying3
 have h9 := Try.underlying9
 have c3 : Try.prog.cellsOf 3 = 1 := by kernel_rfl
 have c9 : Try.prog.cellsOf 9 = 1 := by kernel_rfl
 have c74 : Try.prog.cellsOf 74 = 6 := by kernel_rfl
 refine ⟨2, ?_⟩
 simp [DataW.trod, Try.underlying74, h3, h9, c3, c9, c74, w0, w1, w2, s0, s1, s2, Value.cells]
set_option maxRecDepth 100000 in
theorem open_how {W : World} {b0 base : Nat} {r : Reach} {sp : Nat → Bool} {hd : Bool} {v : Value} {d : DataW H} {p : List MemPlace} {ts : List TypeId} {ds : List (DataW H)} {j : Nat}
  (hsz : (DataW.weightsEach Try.prog ts ds).all (· ≤ reachBytes) = true) (htj : ts[j]? = some 74) (hdj : ds[j]? = some d) (hv : Value.okWide Try.prog W r b0 74 v) (h : DataW.Trod enc Try.prog W base sp hd 74 v d p) :
  ∃ (st wd fv : Int) (g0 g1 g2 : ByteArray), v = .agg #[.int .i64 st, .int .i64 wd, .int .i64 fv, .string g0, .string g1, .string g2] ∧ d = .agg [.lit (.int .i64 st), .lit (.int .i64 wd), .lit (.int .i64 fv), .lit (.string g0.data.toList), .lit (.string g1.data.toList), .lit (.string g2.data.toList)] ∧ p = [] ∧
   ((Lit.int .i64 st).wf = true ∧ (Lit.int .i64 wd).wf = true ∧ (Lit.int .i64 fv).wf = true) ∧ (g0.size ≤ 140737488351232 ∧ g1.size ≤ 140737488351232 ∧ g2.size ≤ 140737488351232) := by
 have hs := Try.underlying74
 have hi := Try.underlying3
 have hg := Try.underlying9
 obtain ⟨cs, rfl, hcs⟩ := okWide_struct hs hv
 have hc6 : cs.size = 6 := hcs.trans (by kernel_rfl)
 obtain ⟨l⟩ := cs
 match l, hc6 with
 | [c0, c1, c2, c3, c4, c5], _ =>
  obtain ⟨fuel, hf⟩ := h
  obtain ⟨xs, n, _, hx, _, hlen, hgt⟩ := DataW.trod_struct hs hf
  have k3 : Try.prog.cellsOf 3 = 1 := by kernel_rfl
  have k9 : Try.prog.cellsOf 9 = 1 := by kernel_rfl
  match xs, hlen with
  | [y0, y1, y2, y3, y4, y5], _ =>
   have t0 := hgt 0 _ rfl
   have t1 := hgt 1 _ rfl
   have t2 := hgt 2 _ rfl
   have t3 := hgt 3 _ rfl
   have t4 := hgt 4 _ rfl
   have t5 := hgt 5 _ rfl
   simp [Value.cells, k3, k9] at t0 t1 t2 t3 t4 t5
   obtain ⟨st, e0, rfl, w0⟩ := DataW.trod_int hi t0
   obtain ⟨wd, e1, rfl, w1⟩ := DataW.trod_int hi t1
   obtain ⟨fv, e2, rfl, w2⟩ := DataW.trod_int hi t2
   obtain ⟨g0, e3, rfl, s0⟩ := DataW.trod_string hg t3
   obtain ⟨g1, e4, rfl, s1⟩ := DataW.trod_string hg t4
   obtain ⟨g2, e5, rfl, s2⟩ := DataW.trod_string hg t5
   simp at e0 e1 e2 e3 e4 e5 hx
   subst e0 e1 e2 e3 e4 e5
   obtain ⟨rfl, rfl⟩ := hx
   have hmem : ∀ (q : Nat) (s : ByteArray), [(.lit (.int .i64 st) : DataW H), .lit (.int .i64 wd), .lit (.int .i64 fv), .lit (.string g0.data.toList), .lit (.string g1.data.toList), .lit (.string g2.data.toList)][q]? = some (.lit (.string s.data.toList)) → ([3, 3, 3, 9, 9, 9] : List TypeId)[q]? = some 9 → s.size ≤ 140737488351232 := by
    intro q s hq hq9
    have h1 : s.data.toList.length ∈ DataW.weights Try.prog 74 (.agg [(.lit (.int .i64 st) : DataW H), .lit (.int .i64 wd), .lit (.int .i64 fv), .lit (.string g0.data.toList), .lit (.string g1.data.toList), .lit (.string g2.data.toList)]) := by
     simp only [DataW.weights, hs]
     exact DataW.weights_mem_each (j := q) (t := 9) hq9 hq _ (by simp [DataW.weights])
    have := List.all_eq_true.1 hsz _ (DataW.weights_mem_each htj hdj _ h1)
    rw [Array.length_toList] at this
    have hr : reachBytes = 140737488351232 := rfl
    simpa [hr] using this
   exact ⟨st, wd, fv, g0, g1, g2, rfl, rfl, rfl, ⟨w0, w1, w2⟩, hmem 3 g0 rfl rfl, hmem 4 g1 rfl rfl, hmem 5 g2 rfl rfl⟩
end
end Go.Proofs.Ytfiamddinkokbaa.F
end
