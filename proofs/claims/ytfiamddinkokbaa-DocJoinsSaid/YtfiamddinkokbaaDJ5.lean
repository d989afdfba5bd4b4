/- Texts joined into one file (wip/tools/pack.py): Open, Pure, Pure01, Pure07, PureOf, PureDocJoins -/
import Derived.Test.YtfiamddinkokbaaDJ1
import Derived.SliceStrings
import Derived.SizedLaws
import Derived.Deep.Slices
import Derived.Deep.Fields
import Derived.ChangeSame
import Derived.Lib.SmallJoins
import Derived.Test.YtfiamddinkokbaaDJ4
import Derived.Test.YtfiamddinkokbaaDJ2
import Derived.Test.YtfiamddinkokbaaDJ3
section
set_option linter.unusedVariables false
set_option linter.unusedSimpArgs false
namespace Go.Proofs.Ytfiamddinkokbaa.F
open Go.RowKit Go.Proofs.YtfiamddinkokbaaW.PrintWords Go.ChangeShapes Go.WideShapes Go.Deep Go.Joins
set_option linter.unusedVariables false
set_option linter.unusedSimpArgs false
section
variable {H : Type} {enc : TypeId × Value → H} {P : Program} {W : World} {base : Nat} {spare : Nat → Bool} {held : Bool}
end
section
variable {H : Type} {enc : TypeId × Value → H} {P : Program} {w : World} {base : Nat} {spare : Nat → Bool} {held : Bool}
theorem open_slice_fields {t e : TypeId} {fs : Array Field} {fuel : Nat} {cs : List Value} {x : DataW H × List MemPlace} (ht : P.underlying t = some (.slice e)) (he : P.underlying e = some (.struct fs))
    (hone : oneCellFields P fs = true) (hC : P.cellsOf e = fs.size) (h : DataW.trod enc P w base spare held fuel t cs = some x) :
    (cs = [.slice none 0 0] ∧ x = (.nil, [])) ∨
    ∃ (a : Addr) (len cap m : Nat) (D : Nat → DataW H) (Pl : Nat → List MemPlace), cs = [.slice (some a) len cap] ∧ base ≤ a.block ∧ len ≤ cap ∧ cap ≤ maxLen ∧ m = (if spare a.block then cap else len) ∧
      x = (.slice ((List.range len).map D) ((List.range (m - len)).map fun j => D (len + j)), MemPlace.row a (m * fs.size) ++ (List.range m).flatMap Pl) ∧
      ∀ i, i < m → ∃ (ys : List (DataW H × List MemPlace)) (n : Nat), D i = .agg (ys.map (·.1)) ∧ Pl i = ys.flatMap (·.2) ∧ ys.length = fs.size ∧
        ∀ (j : Nat) (f : Field), fs[j]? = some f → ∃ (v : Value) (y : DataW H × List MemPlace), w.cell? (a.add (i * fs.size + j)) = some v ∧ ys[j]? = some y ∧ DataW.trod enc P w base spare held n f.type [v] = some y := by
  rcases open_slice ht h with h0 | ⟨a, len, cap, m, n, D, Pl, hcs, hb, hl, hm, hmm, hx, hi⟩
  · exact .inl h0
  · refine .inr ⟨a, len, cap, m, D, Pl, hcs, hb, hl, hm, hmm, by rw [hC] at hx; exact hx, fun i him => ?_⟩
    obtain ⟨cs', hc, ht'⟩ := hi i him
    rw [hC] at hc
    obtain ⟨ys, n', hn', hy, hlen, hyl, hf⟩ := DataW.trod_struct he ht'
    obtain ⟨_, hcl, hat⟩ := World.cells?_some hc
    simp only [Prod.mk.injEq] at hy
    refine ⟨ys, n', hy.1, hy.2, hyl, fun j f hj => ?_⟩
    obtain ⟨ho, hk⟩ := hone_of hone j f hj
    have hjl : j < fs.size := (Array.getElem?_eq_some_iff.1 hj).1
    have hcell := hat j hjl
    have hv : cs'[j]? = some (cs'[j]'(by omega)) := List.getElem?_eq_getElem (by omega)
    have h1 := hf j f hj
    rw [ho, hk] at h1
    have hone' : (cs'.drop j).take 1 = [cs'[j]'(by omega)] := by
      rw [List.drop_eq_getElem_cons (by omega)]
      rfl
    rw [hone'] at h1
    have hys : ys[j]? = some (ys[j]'(by omega)) := List.getElem?_eq_getElem (by omega)
    refine ⟨_, _, ?_, hys, h1.trans hys⟩
    rw [← Go.Deep.add_add, hcell, hv]
end
def small109 (x : S109) : Prop := x.f0.size ≤ 140737488351232 ∧ x.f1.size ≤ 140737488351232 ∧ x.f2.size ≤ 140737488351232 ∧ x.f4.size ≤ 140737488351232 ∧ x.f5.size ≤ 140737488351232 ∧ x.f6.size ≤ 140737488351232 ∧ x.f7.size ≤ 140737488351232
section
variable {H : Type} {enc : TypeId × Value → H} {W : World} {base : Nat} {spare : Nat → Bool} {held : Bool}
theorem weights_all_mem {P : Program} {e : TypeId} {n : Nat} : ∀ (l : List (DataW H)) (d : DataW H), d ∈ l → n ∈ d.weights P e → n ∈ DataW.weightsAll P e l
  | d' :: r, d, hm, hn => by
    simp only [DataW.weightsAll, List.mem_append]
    rcases List.mem_cons.1 hm with rfl | hm
    · exact .inl hn
    · exact .inr (weights_all_mem r d hm hn)
theorem open_parts {A : Option Addr} {n c : Nat} {d : DataW H} {p : List MemPlace} {ts : List TypeId} {ds : List (DataW H)} {j : Nat}
    (hsz : (DataW.weightsEach Try.prog ts ds).all (· ≤ reachBytes) = true) (htj : ts[j]? = some 26) (hdj : ds[j]? = some d)
    (h : DataW.Trod enc Try.prog W base spare held 26 (.slice A n c) d p) :
    ∃ l : List S109, n = l.length ∧ Kd.C k109 W A l.length l ∧ l.length ≤ c ∧ l.length ≤ 1954687338182 ∧ ∀ x ∈ l, small109 x := by
  obtain ⟨fuel, hf⟩ := h
  have hu := Try.underlying26
  have hs := Try.underlying109
  have hus := Try.underlying9
  have hub := Try.underlying4
  have hr : reachBytes = 140737488351232 := rfl
  have hsz9 : ∀ {α : Type} (x : α), [x].length = 1 := fun _ => rfl
  rcases open_slice_fields hu hs (by kernel_rfl) (by kernel_rfl) hf with ⟨hcs, _⟩ | ⟨a, len, cap, m, D, Pl, hcs, _, hl, hm, hmm, hx, hi⟩
  · simp [Value.cells] at hcs
    obtain ⟨rfl, rfl, rfl⟩ := hcs
    exact ⟨[], rfl, Kd.C_nil _ _, by simp, by simp, by simp⟩
  · simp [Value.cells] at hcs
    obtain ⟨rfl, rfl, rfl⟩ := hcs
    obtain ⟨hx1, hx2⟩ := Prod.mk.inj hx
    subst hx1
    have hle : n ≤ m := by rw [hmm]; split <;> omega
    have z := sized_slice hsz htj hdj hu
    have hbytes : Try.prog.bytesOf 109 = 128 := by kernel_rfl
    simp only [List.length_map, List.length_range, hbytes, hr] at z
    have each : ∀ i, i < n → ∃ x : S109, D i = .agg [.lit (.string x.f0.data.toList), .lit (.string x.f1.data.toList), .lit (.string x.f2.data.toList), .lit (.bool x.f3), .lit (.string x.f4.data.toList), .lit (.string x.f5.data.toList), .lit (.string x.f6.data.toList), .lit (.string x.f7.data.toList), .lit (.bool x.f8)] ∧
        ∀ j v, [Value.string x.f0, .string x.f1, .string x.f2, .bool x.f3, .string x.f4, .string x.f5, .string x.f6, .string x.f7, .bool x.f8][j]? = some v → W.cell? (a.add (i * 9 + j)) = some v := by
      intro i hin
      obtain ⟨ys, n', hD, _, hyl, hg⟩ := hi i (by omega)
      obtain ⟨v0, y0, c0, e0, t0⟩ := hg 0 _ rfl
      obtain ⟨v1, y1, c1, e1, t1⟩ := hg 1 _ rfl
      obtain ⟨v2, y2, c2, e2, t2⟩ := hg 2 _ rfl
      obtain ⟨v3, y3, c3, e3, t3⟩ := hg 3 _ rfl
      obtain ⟨v4, y4, c4, e4, t4⟩ := hg 4 _ rfl
      obtain ⟨v5, y5, c5, e5, t5⟩ := hg 5 _ rfl
      obtain ⟨v6, y6, c6, e6, t6⟩ := hg 6 _ rfl
      obtain ⟨v7, y7, c7, e7, t7⟩ := hg 7 _ rfl
      obtain ⟨v8, y8, c8, e8, t8⟩ := hg 8 _ rfl
      obtain ⟨s0, h0, rfl, _⟩ := DataW.trod_string hus t0
      obtain ⟨s1, h1, rfl, _⟩ := DataW.trod_string hus t1
      obtain ⟨s2, h2, rfl, _⟩ := DataW.trod_string hus t2
      obtain ⟨s3, h3, rfl⟩ := DataW.trod_bool hub t3
      obtain ⟨s4, h4, rfl, _⟩ := DataW.trod_string hus t4
      obtain ⟨s5, h5, rfl, _⟩ := DataW.trod_string hus t5
      obtain ⟨s6, h6, rfl, _⟩ := DataW.trod_string hus t6
      obtain ⟨s7, h7, rfl, _⟩ := DataW.trod_string hus t7
      obtain ⟨s8, h8, rfl⟩ := DataW.trod_bool hub t8
      obtain rfl := List.singleton_inj.1 h0
      obtain rfl := List.singleton_inj.1 h1
      obtain rfl := List.singleton_inj.1 h2
      obtain rfl := List.singleton_inj.1 h3
      obtain rfl := List.singleton_inj.1 h4
      obtain rfl := List.singleton_inj.1 h5
      obtain rfl := List.singleton_inj.1 h6
      obtain rfl := List.singleton_inj.1 h7
      obtain rfl := List.singleton_inj.1 h8
      refine ⟨⟨s0, s1, s2, s3, s4, s5, s6, s7, s8⟩, ?_, ?_⟩
      · rw [hD]
        have hl9 : ys.length = 9 := hyl
        match ys, hl9 with
        | [z0, z1, z2, z3, z4, z5, z6, z7, z8], _ =>
          simp at e0 e1 e2 e3 e4 e5 e6 e7 e8
          subst e0 e1 e2 e3 e4 e5 e6 e7 e8
          rfl
      · intro j v hv
        match j, hv with
        | 0, hv => simp at hv; subst hv; exact c0
        | 1, hv => simp at hv; subst hv; exact c1
        | 2, hv => simp at hv; subst hv; exact c2
        | 3, hv => simp at hv; subst hv; exact c3
        | 4, hv => simp at hv; subst hv; exact c4
        | 5, hv => simp at hv; subst hv; exact c5
        | 6, hv => simp at hv; subst hv; exact c6
        | 7, hv => simp at hv; subst hv; exact c7
        | 8, hv => simp at hv; subst hv; exact c8
    obtain ⟨E, hE⟩ : ∃ E : Nat → S109, ∀ i, i < n → D i = .agg [.lit (.string (E i).f0.data.toList), .lit (.string (E i).f1.data.toList), .lit (.string (E i).f2.data.toList), .lit (.bool (E i).f3), .lit (.string (E i).f4.data.toList), .lit (.string (E i).f5.data.toList), .lit (.string (E i).f6.data.toList), .lit (.string (E i).f7.data.toList), .lit (.bool (E i).f8)] ∧
        ∀ j v, [Value.string (E i).f0, .string (E i).f1, .string (E i).f2, .bool (E i).f3, .string (E i).f4, .string (E i).f5, .string (E i).f6, .string (E i).f7, .bool (E i).f8][j]? = some v → W.cell? (a.add (i * 9 + j)) = some v :=
      ⟨fun i => if h : i < n then (each i h).choose else z109, fun i h => by simp only [dif_pos h]; exact (each i h).choose_spec⟩
    have hlen : ((List.range n).map E).length = n := by simp
    refine ⟨(List.range n).map E, hlen.symm, ⟨rfl, ?_, fun _ => ⟨a, rfl, ?_⟩⟩, by omega, by omega, ?_⟩
    · have : maxLen = 9223372036854775807 := rfl
      omega
    · intro j x hj
      obtain ⟨hjn, rfl⟩ : j < n ∧ E j = x := by
        rw [List.getElem?_map] at hj
        by_cases h : j < n
        · rw [List.getElem?_range h] at hj; exact ⟨h, by simpa using hj⟩
        · rw [List.getElem?_eq_none (by simp; omega)] at hj; simp at hj
      exact ⟨_, rfl, k109_mk W (E j), fun i u hu => (hE j hjn).2 i u hu⟩
    · intro x hx
      obtain ⟨i, hin, rfl⟩ := List.mem_map.1 hx
      have hin := List.mem_range.1 hin
      have hD := (hE i hin).1
      have hmem : ∀ (q : Nat) (s : ByteArray), [(.lit (.string (E i).f0.data.toList) : DataW H), .lit (.string (E i).f1.data.toList), .lit (.string (E i).f2.data.toList), .lit (.bool (E i).f3), .lit (.string (E i).f4.data.toList), .lit (.string (E i).f5.data.toList), .lit (.string (E i).f6.data.toList), .lit (.string (E i).f7.data.toList), .lit (.bool (E i).f8)][q]? = some (.lit (.string s.data.toList)) → q < 9 → s.size ≤ 140737488351232 := by
        intro q s hq hq9
        have h1 : s.data.toList.length ∈ DataW.weights Try.prog 109 (D i) := by
          rw [hD]
          simp only [DataW.weights, hs]
          refine DataW.weights_mem_each (j := q) (t := ([9, 9, 9, 4, 9, 9, 9, 9, 4] : List TypeId).getD q 0) ?_ hq _ (by simp [DataW.weights])
          match q, hq9 with
          | 0, _ => rfl
          | 1, _ => rfl
          | 2, _ => rfl
          | 3, _ => rfl
          | 4, _ => rfl
          | 5, _ => rfl
          | 6, _ => rfl
          | 7, _ => rfl
          | 8, _ => rfl
        have h2 : s.data.toList.length ∈ DataW.weights Try.prog 26 (DataW.slice ((List.range n).map D) ((List.range (m - n)).map fun j => D (n + j))) := by
          simp only [DataW.weights, hu]
          exact List.mem_cons_of_mem _ (List.mem_append_left _ (weights_all_mem _ (D i) (List.mem_map.2 ⟨i, List.mem_range.2 hin, rfl⟩) h1))
        have := List.all_eq_true.1 hsz _ (DataW.weights_mem_each htj hdj _ h2)
        rw [Array.length_toList] at this
        simpa [hr] using this
      exact ⟨hmem 0 _ rfl (by omega), hmem 1 _ rfl (by omega), hmem 2 _ rfl (by omega), hmem 4 _ rfl (by omega), hmem 5 _ rfl (by omega), hmem 6 _ rfl (by omega), hmem 7 _ rfl (by omega)⟩
end
end Go.Proofs.Ytfiamddinkokbaa.F
end

section
set_option linter.unusedVariables false
set_option linter.unusedSimpArgs false
namespace Go.Proofs.Ytfiamddinkokbaa
open Go.RowKit Go.Proofs.YtfiamddinkokbaaW.PrintWords
set_option linter.unusedVariables false
def Ev {α : Type} (F : Nat → Option α) (v : α) : Prop := ∃ K, ∀ k, K ≤ k → F k = some v
namespace Ev
variable {α β : Type} {F G : Nat → Option α} {H : Nat → α → Option β} {v a : α} {b : β}
theorem get (h : Ev F v) : ∃ k, F k = some v := let ⟨K, hK⟩ := h; ⟨K, hK K (Nat.le_refl K)⟩
theorem val {x : α} (h : x = v) : Ev (fun _ => some x) v := ⟨0, fun _ _ => by rw [h]⟩
theorem const {o : Option α} (h : o = some v) : Ev (fun _ => o) v := ⟨0, fun _ _ => h⟩
theorem of_mono (hm : ∀ k, LeO (F k) (F (k + 1))) {k : Nat} (h : F k = some v) : Ev F v := ⟨k, fun j hj => by
  induction hj with
  | refl => exact h
  | step _ ih => exact hm _ _ ih⟩
theorem succ (h : Ev (fun k => F (k + 1)) v) : Ev F v := let ⟨K, hK⟩ := h; ⟨K + 1, fun k hk => by
  obtain ⟨j, rfl⟩ : ∃ j, k = j + 1 := ⟨k - 1, by omega⟩
  exact hK j (by omega)⟩
theorem pos {c : Prop} [Decidable c] (hc : c) (h : Ev F v) : Ev (fun k => if c then F k else G k) v := by simpa only [if_pos hc] using h
theorem neg {c : Prop} [Decidable c] (hc : ¬ c) (h : Ev G v) : Ev (fun k => if c then F k else G k) v := by simpa only [if_neg hc] using h
theorem bind {F : Nat → Option α} (h : Ev F a) (h' : Ev (fun k => H k a) b) : Ev (fun k => (F k).bind (H k)) b := by
  obtain ⟨K, hK⟩ := h
  obtain ⟨L, hL⟩ := h'
  refine ⟨max K L, fun k hk => ?_⟩
  show (F k).bind (H k) = some b
  rw [hK k (by omega)]
  exact hL k (by omega)
end Ev
theorem wrap_in {n : Int} (h0 : -9223372036854775808 ≤ n) (h1 : n ≤ 9223372036854775807) : wrap64 n = n := by unfold wrap64; omega
theorem size_data (s : ByteArray) : s.data.toList.length = s.size := Array.length_toList
theorem bytes_toList (s : ByteArray) : s.toList = s.data.toList := by
  exact ByteArray.toList_eq s
theorem bt_at (s : ByteArray) (i : Int) (xs ys : List UInt8) (c : UInt8) (h : s.data.toList = xs ++ c :: ys) (hi : i = xs.length) : bt s i = (c.toNat : Int) := by
  have hs : xs.length < s.size := by rw [← size_data, h]; simp
  subst hi
  unfold bt
  rw [dif_pos (by simpa using hs)]
  have : s.data.toList[xs.length]? = some c := by rw [h]; simp
  have h2 := getElem?_byte s xs.length hs
  rw [this] at h2
  have h3 : s[xs.length] = c := (Option.some.inj h2).symm
  simp only [Int.toNat_natCast, h3]
end Go.Proofs.Ytfiamddinkokbaa
end

section
set_option linter.unusedVariables false
set_option linter.unusedSimpArgs false
namespace Go.Proofs.Ytfiamddinkokbaa.F
open Go.RowKit Go.Proofs.YtfiamddinkokbaaW.PrintWords Go.Proofs.YtfiamddinkokbaaW.PrintLast Go.Proofs.YtfiamddinkokbaaW.PrintMore
set_option linter.unusedVariables false
set_option linter.unusedSimpArgs false
end Go.Proofs.Ytfiamddinkokbaa.F
end

section
set_option linter.unusedVariables false
set_option linter.unusedSimpArgs false
namespace Go.Proofs.Ytfiamddinkokbaa.F
open Go.RowKit Go.Proofs.YtfiamddinkokbaaW.PrintWords Go.Proofs.YtfiamddinkokbaaW.PrintLast Go.Proofs.YtfiamddinkokbaaW.PrintMore
set_option linter.unusedVariables false
set_option linter.unusedSimpArgs false
theorem ev_told07 : Ev (fun k => tripartitelaw07_told.f k) true := Ev.of_mono (fun k => tripartitelaw07_told.mono k) (k := 40) (by decide +kernel)
end Go.Proofs.Ytfiamddinkokbaa.F
end

section
set_option linter.unusedVariables false
set_option linter.unusedSimpArgs false
namespace Go.Proofs.Ytfiamddinkokbaa.F
open Go.RowKit Go.Proofs.YtfiamddinkokbaaW.PrintWords Go.Proofs.YtfiamddinkokbaaW.PrintLast Go.Proofs.YtfiamddinkokbaaW.PrintMore
set_option linter.unusedVariables false
set_option linter.unusedSimpArgs false
def to106 (x : S109) : S106 := ⟨⟨x.f0, x.f1, x.f2⟩, x.f3, x.f4, x.f5, x.f6, x.f7, x.f8⟩
def to109 (x : S106) : S109 := ⟨x.f0.f0, x.f0.f1, x.f0.f2, x.f1, x.f2, x.f3, x.f4, x.f5, x.f6⟩
theorem map_to109 (l : List S109) : (l.map to106).map to109 = l := by
  rw [List.map_map]; exact List.map_id l
def isTextP (x : S109) : Bool := x.f0.toList.isEmpty && (x.f1.toList.isEmpty && (x.f2.toList.isEmpty && (!x.f3 && (x.f5.toList.isEmpty && (x.f6.toList.isEmpty && (x.f7.toList.isEmpty && (!x.f8)))))))
def isNoneP (x : S109) : Bool := isTextP x && x.f4.toList.isEmpty
def joinP (z p : S109) : S109 := ⟨z.f0, z.f1, z.f2, z.f3, z.f4 ++ p.f4, z.f5, z.f6, z.f7, z.f8⟩
def ofStep (out : List S109) (p : S109) : List S109 :=
  if isNoneP p = true then out
  else match out.getLast? with
    | none => out ++ [p]
    | some z => if isTextP p = true ∧ isTextP z = true then out.dropLast ++ [joinP z p] else out ++ [p]
def ofP (l : List S109) : List S109 := l.foldl ofStep []
theorem ofStep_none (out : List S109) (p : S109) (h : isNoneP p = true) : ofStep out p = out := by unfold ofStep; rw [if_pos h]
theorem ofStep_nil (p : S109) (h : ¬ isNoneP p = true) : ofStep [] p = [p] := by unfold ofStep; rw [if_neg h]; rfl
theorem ofStep_join (u : List S109) (z p : S109) (h : ¬ isNoneP p = true) (hp : isTextP p = true) (hz : isTextP z = true) : ofStep (u ++ [z]) p = u ++ [joinP z p] := by
  unfold ofStep; rw [if_neg h, List.getLast?_concat]; simp [hp, hz]
theorem ofStep_put (u : List S109) (z p : S109) (h : ¬ isNoneP p = true) (hn : ¬ (isTextP p = true ∧ isTextP z = true)) : ofStep (u ++ [z]) p = u ++ [z] ++ [p] := by
  unfold ofStep; rw [if_neg h, List.getLast?_concat]; simp only [if_neg hn]
def textSum (l : List S109) : Nat := (l.map fun x => x.f4.size).sum
theorem joinP_text (z p : S109) : isTextP (joinP z p) = isTextP z := rfl
theorem empty_toList (s : ByteArray) : s.toList.isEmpty = true ↔ s.size = 0 := by
  rw [bytes_toList, List.isEmpty_iff, ← size_data]; exact ⟨fun h => by rw [h]; rfl, fun h => List.length_eq_zero_iff.1 h⟩
def Joined (l : List S109) : Prop := (∀ x ∈ l, ¬ isNoneP x = true) ∧ ∀ u a b v, l = u ++ a :: b :: v → ¬ (isTextP a = true ∧ isTextP b = true)
theorem snoc_two {α : Type} {l u v : List α} {z a b : α} (h : l ++ [z] = u ++ a :: b :: v) : (v = [] ∧ b = z ∧ l = u ++ [a]) ∨ ∃ v', v = v' ++ [z] ∧ l = u ++ a :: b :: v' := by
  rcases List.eq_nil_or_concat v with rfl | ⟨v', y, rfl⟩
  · left
    have h2 : l ++ [z] = (u ++ [a]) ++ [b] := by rw [h]; simp
    obtain ⟨h3, h4⟩ := List.append_inj' h2 rfl
    exact ⟨rfl, (List.cons.inj h4).1.symm, h3⟩
  · right
    have h2 : l ++ [z] = (u ++ a :: b :: v') ++ [y] := by rw [h]; simp
    obtain ⟨h3, h4⟩ := List.append_inj' h2 rfl
    exact ⟨v', by rw [(List.cons.inj h4).1]; simp, h3⟩
theorem joined_nil : Joined [] := ⟨fun x hx => (by cases hx), fun u a b v h => (by simp at h)⟩
theorem joined_step (out : List S109) (p : S109) (h : Joined out) : Joined (ofStep out p) := by
  obtain ⟨h1, h2⟩ := h
  by_cases hn : isNoneP p = true
  · rw [ofStep_none out p hn]; exact ⟨h1, h2⟩
  · rcases List.eq_nil_or_concat out with rfl | ⟨u0, z, rfl⟩
    · rw [ofStep_nil p hn]
      refine ⟨fun x hx => by rw [List.mem_singleton.1 hx]; exact hn, fun u a b v e => ?_⟩
      have := congrArg List.length e
      simp at this; omega
    · rw [List.concat_eq_append] at h1 h2 ⊢
      by_cases hb : isTextP p = true ∧ isTextP z = true
      · rw [ofStep_join u0 z p hn hb.1 hb.2]
        refine ⟨fun x hx => ?_, fun u a b v e => ?_⟩
        · rcases List.mem_append.1 hx with hx | hx
          · exact h1 x (List.mem_append_left _ hx)
          · rw [List.mem_singleton.1 hx]
            intro hj
            apply hn
            unfold isNoneP at hj ⊢
            rw [joinP_text, hb.2, Bool.true_and] at hj
            rw [hb.1, Bool.true_and]
            rw [empty_toList] at hj ⊢
            unfold joinP at hj
            simp only [ByteArray.size_append] at hj
            omega
        · rcases snoc_two e with ⟨rfl, rfl, rfl⟩ | ⟨v', rfl, rfl⟩
          · rw [joinP_text]; exact h2 u a z [] (by simp)
          · exact h2 u a b (v' ++ [z]) (by simp)
      · rw [ofStep_put u0 z p hn hb]
        refine ⟨fun x hx => ?_, fun u a b v e => ?_⟩
        · rcases List.mem_append.1 hx with hx | hx
          · exact h1 x hx
          · rw [List.mem_singleton.1 hx]; exact hn
        · rcases snoc_two e with ⟨rfl, rfl, e2⟩ | ⟨v', rfl, e2⟩
          · obtain ⟨_, e3⟩ := List.append_inj' e2 rfl
            rw [← (List.cons.inj e3).1]
            exact fun hc => hb ⟨hc.2, hc.1⟩
          · exact h2 u a b v' e2
theorem joined_fold (l out : List S109) (h : Joined out) : Joined (l.foldl ofStep out) := by
  induction l generalizing out with
  | nil => exact h
  | cons p l ih => exact ih _ (joined_step out p h)
theorem joined_of (l : List S109) : Joined (ofP l) := joined_fold l [] joined_nil
theorem fold_joined (l acc : List S109) (h : Joined (acc ++ l)) : l.foldl ofStep acc = acc ++ l := by
  induction l generalizing acc with
  | nil => simp
  | cons p l ih =>
    have hn : ¬ isNoneP p = true := h.1 p (by simp)
    have hs : ofStep acc p = acc ++ [p] := by
      rcases List.eq_nil_or_concat acc with rfl | ⟨u, z, rfl⟩
      · exact ofStep_nil p hn
      · rw [List.concat_eq_append] at h ⊢
        exact ofStep_put u z p hn (fun hc => h.2 u z p l (by simp) ⟨hc.2, hc.1⟩)
    show l.foldl ofStep (ofStep acc p) = acc ++ p :: l
    rw [hs, ih (acc ++ [p]) (by simpa using h)]; simp
theorem of_of (l : List S109) : ofP (ofP l) = ofP l := by
  have := fold_joined (ofP l) [] (by simpa using joined_of l)
  simpa [ofP] using this
theorem step_bound (M : Nat) (out : List S109) (p : S109) (h : ∀ x ∈ out, x.f4.size ≤ M) : (ofStep out p).length ≤ out.length + 1 ∧ ∀ x ∈ ofStep out p, x.f4.size ≤ M + p.f4.size := by
  by_cases hn : isNoneP p = true
  · rw [ofStep_none out p hn]; exact ⟨by omega, fun x hx => by have := h x hx; omega⟩
  · rcases List.eq_nil_or_concat out with rfl | ⟨u0, z, rfl⟩
    · rw [ofStep_nil p hn]; exact ⟨by simp, fun x hx => by rw [List.mem_singleton.1 hx]; omega⟩
    · rw [List.concat_eq_append] at h ⊢
      by_cases hb : isTextP p = true ∧ isTextP z = true
      · rw [ofStep_join u0 z p hn hb.1 hb.2]
        refine ⟨by simp, fun x hx => ?_⟩
        rcases List.mem_append.1 hx with hx | hx
        · have := h x (List.mem_append_left _ hx); omega
        · rw [List.mem_singleton.1 hx]
          have := h z (by simp)
          simp only [joinP, ByteArray.size_append]; omega
      · rw [ofStep_put u0 z p hn hb]
        refine ⟨by simp, fun x hx => ?_⟩
        rcases List.mem_append.1 hx with hx | hx
        · have := h x hx; omega
        · rw [List.mem_singleton.1 hx]; omega
theorem fold_bound : ∀ (l : List S109) (M : Nat) (out : List S109), (∀ x ∈ out, x.f4.size ≤ M) → (l.foldl ofStep out).length ≤ out.length + l.length ∧ ∀ x ∈ l.foldl ofStep out, x.f4.size ≤ M + textSum l
  | [], M, out, h => ⟨by simp, fun x hx => by have := h x hx; simp [textSum]; omega⟩
  | p :: l, M, out, h => by
    obtain ⟨h1, h2⟩ := step_bound M out p h
    obtain ⟨h3, h4⟩ := fold_bound l (M + p.f4.size) (ofStep out p) h2
    refine ⟨by simp only [List.foldl_cons, List.length_cons]; omega, fun x hx => ?_⟩
    have := h4 x hx
    simp only [textSum, List.map_cons, List.sum_cons] at this ⊢
    omega
theorem of_bound (l : List S109) : (ofP l).length ≤ l.length ∧ ∀ x ∈ ofP l, x.f4.size ≤ textSum l := by
  have := fold_bound l 0 [] (fun x hx => by cases hx)
  exact ⟨by simpa [ofP] using this.1, fun x hx => by have := this.2 x hx; omega⟩
theorem rd106_at (l : List S106) (i : Int) (xs ys : List S106) (c : S106) (h : l = xs ++ c :: ys) (hi : i = xs.length) : rd_T106 l i = c := by
  subst h hi; unfold rd_T106; simp [List.getD_eq_getElem?_getD]
theorem rd109_at (l : List S109) (i : Int) (xs ys : List S109) (c : S109) (h : l = xs ++ c :: ys) (hi : i = xs.length) : rd_T109 l i = c := by
  subst h hi; unfold rd_T109; simp [List.getD_eq_getElem?_getD]
theorem rd106_map (l : List S109) (i : Int) (xs ys : List S109) (c : S109) (h : l = xs ++ c :: ys) (hi : i = xs.length) : rd_T106 (l.map to106) i = to106 c :=
  rd106_at _ i (xs.map to106) (ys.map to106) (to106 c) (by rw [h]; simp) (by simpa using hi)
theorem to_in (l : List S109) (hn : l.length ≤ 4000000000) : ∀ (rest done : List S109) (i : Int), l = done ++ rest → i = done.length → Ev (fun k => tripartitelaw07_To.l0 k l (done.map to106) i) (l.map to106)
  | [], done, i, hl, ei => by
    refine Ev.succ ?_
    simp only [tripartitelaw07_To.l0]
    refine Ev.neg (by rw [hl]; simp; omega) (Ev.val (by rw [hl]; simp))
  | x :: rest, done, i, hl, ei => by
    have hsz : l.length = done.length + (rest.length + 1) := by rw [hl]; simp
    have hw : wrap64 (i + 1) = i + 1 := wrap_in (by omega) (by omega)
    refine Ev.succ ?_
    simp only [tripartitelaw07_To.l0, hw, rd109_at l i done rest x hl ei]
    refine Ev.pos (by omega) (Ev.pos (by omega) (Ev.bind (Ev.const rfl) (Ev.pos (by simp; omega) ?_)))
    have := to_in l hn rest (done ++ [x]) (i + 1) (by rw [hl]; simp) (by simp; omega)
    rw [List.map_append] at this
    exact this
theorem ev_to (l : List S109) (hn : l.length ≤ 4000000000) : Ev (fun k => tripartitelaw07_To.f k l) (l.map to106) := to_in l hn l [] 0 rfl rfl
theorem from_in (l : List S106) (hn : l.length ≤ 4000000000) : ∀ (rest done : List S106) (i : Int), l = done ++ rest → i = done.length → Ev (fun k => tripartitelaw07_From.l0 k l (done.map to109) i) (l.map to109)
  | [], done, i, hl, ei => by
    refine Ev.succ ?_
    simp only [tripartitelaw07_From.l0]
    refine Ev.neg (by rw [hl]; simp; omega) (Ev.val (by rw [hl]; simp))
  | x :: rest, done, i, hl, ei => by
    have hsz : l.length = done.length + (rest.length + 1) := by rw [hl]; simp
    have hw : wrap64 (i + 1) = i + 1 := wrap_in (by omega) (by omega)
    refine Ev.succ ?_
    simp only [tripartitelaw07_From.l0, hw, rd106_at l i done rest x hl ei]
    refine Ev.pos (by omega) (Ev.pos (by omega) (Ev.bind (Ev.const rfl) (Ev.pos (by simp; omega) ?_)))
    have := from_in l hn rest (done ++ [x]) (i + 1) (by rw [hl]; simp) (by simp; omega)
    rw [List.map_append] at this
    exact this
theorem ev_from (l : List S106) (hn : l.length ≤ 4000000000) : Ev (fun k => tripartitelaw07_From.f k l) (l.map to109) := from_in l hn l [] 0 rfl rfl
theorem set_last {α : Type} (u : List α) (z z' : α) (i : Int) (hi : i = u.length) : (u ++ [z]).set i.toNat z' = u ++ [z'] := by
  subst hi; rw [Int.toNat_natCast, List.set_append_right _ _ (Nat.le_refl _)]; simp
theorem doc_of_in (l : List S109) (hn : l.length ≤ 4000000000) (ht : textSum l ≤ 4000000000) :
    ∀ (rest done out : List S109) (i : Int) (M : Nat), l = done ++ rest → i = done.length → out.length ≤ done.length → (∀ x ∈ out, x.f4.size ≤ M) → M + textSum rest ≤ 4000000000 →
    Ev (fun k => doc_Of.l0 k (out.map to106) (l.map to106) ((l.map to106).length : Int) i) ((rest.foldl ofStep out).map to106)
  | [], done, out, i, M, hl, ei, ho, hm, hM => by
    refine Ev.succ ?_
    simp only [doc_Of.l0]
    refine Ev.neg (by rw [hl]; simp; omega) (Ev.val rfl)
  | p :: rest, done, out, i, M, hl, ei, ho, hm, hM => by
    have hsz : l.length = done.length + (rest.length + 1) := by rw [hl]; simp
    have hw : wrap64 (i + 1) = i + 1 := wrap_in (by omega) (by omega)
    obtain ⟨hb1, hb2⟩ := step_bound M out p hm
    have hts : textSum (p :: rest) = p.f4.size + textSum rest := by simp [textSum]
    have again := doc_of_in l hn ht rest (done ++ [p]) (ofStep out p) (i + 1) (M + p.f4.size) (by rw [hl]; simp) (by simp; omega) (by simp; omega) hb2 (by omega)
    have hlm : ((l.map to106).length : Int) = l.length := by simp
    refine Ev.succ ?_
    simp only [doc_Of.l0, hw, rd106_map l i done rest p hl ei]
    refine Ev.pos (by rw [hlm]; omega) (Ev.pos (by omega) (Ev.pos (by rw [hlm]; omega) ?_))
    have hcond : (((to106 p).f0.f0.toList.isEmpty && ((to106 p).f0.f1.toList.isEmpty && (to106 p).f0.f2.toList.isEmpty)) && (!(to106 p).f1 && ((to106 p).f2.toList.isEmpty && ((to106 p).f3.toList.isEmpty && ((to106 p).f4.toList.isEmpty && ((to106 p).f5.toList.isEmpty && (!(to106 p).f6))))))) = isNoneP p := by
      unfold isNoneP isTextP to106
      cases p.f0.toList.isEmpty <;> cases p.f1.toList.isEmpty <;> cases p.f2.toList.isEmpty <;> cases p.f3 <;> cases p.f4.toList.isEmpty <;> cases p.f5.toList.isEmpty <;> cases p.f6.toList.isEmpty <;> cases p.f7.toList.isEmpty <;> cases p.f8 <;> rfl
    have htext : ∀ q : S109, doc_Part_isText.f (to106 q).f0.f0 (to106 q).f0.f1 (to106 q).f0.f2 (to106 q).f1 (to106 q).f2 (to106 q).f3 (to106 q).f4 (to106 q).f5 (to106 q).f6 = some (isTextP q) := by
      intro q
      unfold doc_Part_isText.f isTextP to106
      congr 1
      cases q.f0.toList.isEmpty <;> cases q.f1.toList.isEmpty <;> cases q.f2.toList.isEmpty <;> cases q.f3 <;> cases q.f5.toList.isEmpty <;> cases q.f6.toList.isEmpty <;> cases q.f7.toList.isEmpty <;> cases q.f8 <;> rfl
    simp only [hcond]
    by_cases hnone : isNoneP p = true
    · refine Ev.pos hnone ?_
      rw [List.foldl_cons, ofStep_none out p hnone]
      rw [ofStep_none out p hnone] at again
      exact again
    · refine Ev.neg hnone (Ev.bind (Ev.const (htext p)) ?_)
      have put : ofStep out p = out ++ [p] → Ev (fun k => if (out.map to106).length < 1099511627776 then doc_Of.l0 k (out.map to106 ++ [(⟨(⟨(to106 p).f0.f0, (to106 p).f0.f1, (to106 p).f0.f2⟩ : S84), (to106 p).f1, (to106 p).f2, (to106 p).f3, (to106 p).f4, (to106 p).f5, (to106 p).f6⟩ : S106)]) (l.map to106) ((l.map to106).length : Int) (i + 1) else none) (((p :: rest).foldl ofStep out).map to106) := by
        intro e
        refine Ev.pos (by simp; omega) ?_
        rw [List.foldl_cons, e]
        rw [e, List.map_append] at again
        exact again
      by_cases hp : isTextP p = true
      · refine Ev.pos hp ?_
        rcases List.eq_nil_or_concat out with rfl | ⟨u, z, rfl⟩
        · refine Ev.neg (by simp) (put (ofStep_nil p hnone))
        · rw [List.concat_eq_append] at *
          have hul : (((u ++ [z]).map to106).length : Int) = u.length + 1 := by simp
          have hwl : wrap64 ((((u ++ [z]).map to106).length : Int) - 1) = u.length := by rw [hul, wrap_in (by simp at ho; omega) (by simp at ho; omega)]; omega
          have hrd : rd_T106 ((u ++ [z]).map to106) (u.length : Int) = to106 z := rd106_map (u ++ [z]) _ u [] z rfl rfl
          simp only [hwl, hrd]
          refine Ev.pos (by rw [hul]; omega) (Ev.pos (by omega) (Ev.pos (by rw [hul]; omega) (Ev.bind (Ev.const (htext z)) ?_)))
          by_cases hz : isTextP z = true
          · refine Ev.pos hz (Ev.pos ?_ ?_)
            · have := hm z (by simp)
              show z.f4.size + p.f4.size ≤ 9223372036854775807
              omega
            · rw [List.foldl_cons]
              rw [ofStep_join u z p hnone hp hz] at again ⊢
              have e : ((u ++ [z]).map to106).set (u.length : Int).toNat (to106 (joinP z p)) = (u ++ [joinP z p]).map to106 := by
                rw [List.map_append, List.map_append, List.map_singleton, List.map_singleton, set_last _ _ _ _ (by simp)]
              rw [← e] at again
              exact again
          · exact Ev.neg hz (put (ofStep_put u z p hnone (fun hc => hz hc.2)))
      · refine Ev.neg hp ?_
        rcases List.eq_nil_or_concat out with rfl | ⟨u, z, rfl⟩
        · exact put (ofStep_nil p hnone)
        · rw [List.concat_eq_append] at *
          exact put (ofStep_put u z p hnone (fun hc => hp hc.1))
theorem ev_doc_of (l : List S109) (hn : l.length ≤ 4000000000) (ht : textSum l ≤ 4000000000) : Ev (fun k => doc_Of.f k (l.map to106)) ((ofP l).map to106) :=
  doc_of_in l hn ht l [] [] 0 0 rfl rfl (Nat.le_refl _) (fun x hx => (by cases hx)) (by omega)
theorem ref_of_in (l : List S109) (hn : l.length ≤ 4000000000) (ht : textSum l ≤ 4000000000) :
    ∀ (rest done out : List S109) (i : Int) (M : Nat), l = done ++ rest → i = done.length → out.length ≤ done.length → (∀ x ∈ out, x.f4.size ≤ M) → M + textSum rest ≤ 4000000000 →
    Ev (fun k => tripartiteref07_Of.l0 k l out i) (rest.foldl ofStep out)
  | [], done, out, i, M, hl, ei, ho, hm, hM => by
    refine Ev.succ ?_
    simp only [tripartiteref07_Of.l0]
    refine Ev.neg (by rw [hl]; simp; omega) (Ev.val rfl)
  | p :: rest, done, out, i, M, hl, ei, ho, hm, hM => by
    have hsz : l.length = done.length + (rest.length + 1) := by rw [hl]; simp
    have hw : wrap64 (i + 1) = i + 1 := wrap_in (by omega) (by omega)
    obtain ⟨hb1, hb2⟩ := step_bound M out p hm
    have hts : textSum (p :: rest) = p.f4.size + textSum rest := by simp [textSum]
    have again := ref_of_in l hn ht rest (done ++ [p]) (ofStep out p) (i + 1) (M + p.f4.size) (by rw [hl]; simp) (by simp; omega) (by simp; omega) hb2 (by omega)
    have htext : ∀ q : S109, tripartiteref07_text.f q.f0 q.f1 q.f2 q.f3 q.f4 q.f5 q.f6 q.f7 q.f8 = some (isTextP q) := fun q => rfl
    have key : ∀ b : Bool, b = isNoneP p → Ev (fun k => tripartiteref07_Of.j1 k l out i (out.length : Int) b) ((p :: rest).foldl ofStep out) := by
      intro b hb
      subst hb
      refine Ev.succ ?_
      simp only [tripartiteref07_Of.j1, hw, rd109_at l i done rest p hl ei, htext]
      by_cases hnone : isNoneP p = true
      · refine Ev.pos hnone ?_
        rw [List.foldl_cons, ofStep_none out p hnone]
        rw [ofStep_none out p hnone] at again
        exact again
      · refine Ev.neg hnone (Ev.pos (by omega) (Ev.pos (by omega) (Ev.bind (Ev.const rfl) ?_)))
        have put : ofStep out p = out ++ [p] → Ev (fun k => if out.length < 1099511627776 then tripartiteref07_Of.l0 k l (out ++ [(⟨p.f0, p.f1, p.f2, p.f3, p.f4, p.f5, p.f6, p.f7, p.f8⟩ : S109)]) (i + 1) else none) ((p :: rest).foldl ofStep out) := by
          intro e
          refine Ev.pos (by omega) ?_
          rw [List.foldl_cons, e]
          rw [e] at again
          exact again
        by_cases hp : isTextP p = true
        · refine Ev.pos hp ?_
          rcases List.eq_nil_or_concat out with rfl | ⟨u, z, rfl⟩
          · refine Ev.neg (by simp) (put (ofStep_nil p hnone))
          · rw [List.concat_eq_append] at *
            have hul : ((u ++ [z]).length : Int) = u.length + 1 := by simp
            have hwl : wrap64 (((u ++ [z]).length : Int) - 1) = u.length := by rw [hul, wrap_in (by simp at ho; omega) (by simp at ho; omega)]; omega
            have hrd : rd_T109 (u ++ [z]) (u.length : Int) = z := rd109_at (u ++ [z]) _ u [] z rfl rfl
            simp only [hwl, hrd, htext]
            refine Ev.pos (by rw [hul]; omega) (Ev.pos (by omega) (Ev.pos (by rw [hul]; omega) (Ev.bind (Ev.const rfl) ?_)))
            by_cases hz : isTextP z = true
            · refine Ev.pos hz (Ev.pos ?_ ?_)
              · have := hm z (by simp)
                omega
              · rw [List.foldl_cons]
                rw [ofStep_join u z p hnone hp hz] at again ⊢
                have e : (u ++ [z]).set (u.length : Int).toNat (joinP z p) = u ++ [joinP z p] := set_last _ _ _ _ rfl
                have g : ∀ o, o = u ++ [joinP z p] → Ev (fun k => tripartiteref07_Of.l0 k l o (i + 1)) (List.foldl ofStep (u ++ [joinP z p]) rest) := fun o ho => by rw [ho]; exact again
                exact g _ e
            · exact Ev.neg hz (put (ofStep_put u z p hnone (fun hc => hz hc.2)))
        · refine Ev.neg hp ?_
          rcases List.eq_nil_or_concat out with rfl | ⟨u, z, rfl⟩
          · exact put (ofStep_nil p hnone)
          · rw [List.concat_eq_append] at *
            exact put (ofStep_put u z p hnone (fun hc => hp hc.1))
    refine Ev.succ ?_
    simp only [tripartiteref07_Of.l0, rd109_at l i done rest p hl ei, htext]
    refine Ev.pos (by omega) (Ev.pos (by omega) (Ev.bind (Ev.const rfl) ?_))
    by_cases hp : isTextP p = true
    · refine Ev.pos hp (key _ ?_)
      unfold isNoneP; rw [hp, Bool.true_and]
      cases p.f4.toList <;> rfl
    · refine Ev.neg hp (key _ ?_)
      unfold isNoneP
      rw [Bool.not_eq_true] at hp
      rw [hp]; rfl
theorem ev_ref_of (l : List S109) (hn : l.length ≤ 4000000000) (ht : textSum l ≤ 4000000000) : Ev (fun k => tripartiteref07_Of.f k l) (ofP l) :=
  ref_of_in l hn ht l [] [] 0 0 rfl rfl (Nat.le_refl _) (fun x hx => (by cases hx)) (by omega)
def eqP (x y : S109) : Bool := x.f0.toList == y.f0.toList && (x.f1.toList == y.f1.toList && (x.f2.toList == y.f2.toList && (x.f3 == y.f3 && (x.f4.toList == y.f4.toList && (x.f5.toList == y.f5.toList && (x.f6.toList == y.f6.toList && (x.f7.toList == y.f7.toList && x.f8 == y.f8)))))))
theorem eqP_refl (x : S109) : eqP x x = true := by simp [eqP]
def sameP : List S109 → List S109 → Bool
  | [], [] => true
  | x :: a, y :: b => eqP x y && sameP a b
  | _, _ => false
theorem sameP_refl : ∀ l : List S109, sameP l l = true
  | [] => rfl
  | x :: l => by simp [sameP, eqP_refl, sameP_refl l]
theorem sameP_length : ∀ a b : List S109, sameP a b = true → a.length = b.length
  | [], [], _ => rfl
  | x :: a, y :: b, h => by simp [sameP] at h; simp [sameP_length a b h.2]
  | [], y :: b, h => by simp [sameP] at h
  | x :: a, [], h => by simp [sameP] at h
theorem ref_same_in (a b : List S109) (hn : a.length ≤ 4000000000) (hab : a.length = b.length) : ∀ (ra rb da db : List S109) (i : Int), a = da ++ ra → b = db ++ rb → da.length = db.length → i = da.length → Ev (fun k => tripartiteref07_Same.l0 k a b i) (sameP ra rb)
  | [], rb, da, db, i, ha, hb, hd, ei => by
    have : rb = [] := by
      rw [ha, hb] at hab; simp at hab; exact List.length_eq_zero_iff.1 (by omega)
    subst this
    refine Ev.succ ?_
    simp only [tripartiteref07_Same.l0]
    refine Ev.neg (by rw [ha]; simp; omega) (Ev.val rfl)
  | x :: ra, [], da, db, i, ha, hb, hd, ei => by
    rw [ha, hb] at hab; simp at hab; omega
  | x :: ra, y :: rb, da, db, i, ha, hb, hd, ei => by
    have hsz : a.length = da.length + (ra.length + 1) := by rw [ha]; simp
    have hw : wrap64 (i + 1) = i + 1 := wrap_in (by omega) (by omega)
    refine Ev.succ ?_
    simp only [tripartiteref07_Same.l0, hw, rd109_at a i da ra x ha ei, rd109_at b i db rb y hb (by omega)]
    refine Ev.pos (by omega) (Ev.pos (by omega) (Ev.pos (by omega) ?_))
    by_cases he : eqP x y = true
    · refine Ev.neg ?_ ?_
      · unfold eqP at he; simp only [Bool.and_eq_true] at he
        obtain ⟨h0, h1, h2, h3, h4, h5, h6, h7, h8⟩ := he
        simp [h0, h1, h2, h3, h4, h5, h6, h7, h8]
      · rw [show sameP (x :: ra) (y :: rb) = sameP ra rb from by simp [sameP, he]]
        exact ref_same_in a b hn hab ra rb (da ++ [x]) (db ++ [y]) (i + 1) (by rw [ha]; simp) (by rw [hb]; simp) (by simp [hd]) (by simp; omega)
    · refine Ev.pos ?_ (Ev.val ?_)
      · rw [Bool.not_eq_true] at he
        have h2 : (!eqP x y) = true := by rw [he]; rfl
        unfold eqP at h2
        simpa only [Bool.not_and] using h2
      · rw [Bool.not_eq_true] at he; simp [sameP, he]
theorem ev_ref_same (a b : List S109) (hn : a.length ≤ 4000000000) (hm : b.length ≤ 4000000000) : Ev (fun k => tripartiteref07_Same.f k a b) (sameP a b) := by
  unfold tripartiteref07_Same.f
  by_cases h : (a.length : Int) = b.length
  · refine Ev.pos h (ref_same_in a b hn (by omega) a b [] [] 0 rfl rfl rfl rfl)
  · refine Ev.neg h (Ev.val ?_)
    cases hs : sameP a b with
    | false => rfl
    | true => exact absurd (by rw [sameP_length a b hs]) h
theorem doc_same_in (a b : List S109) (hn : a.length ≤ 4000000000) (hab : a.length = b.length) : ∀ (ra rb da db : List S109) (i : Int), a = da ++ ra → b = db ++ rb → da.length = db.length → i = da.length →
    Ev (fun k => doc_Part.l0 k (a.map to106) (b.map to106) ((a.map to106).length : Int) i) (sameP ra rb)
  | [], rb, da, db, i, ha, hb, hd, ei => by
    have : rb = [] := by
      rw [ha, hb] at hab; simp at hab; exact List.length_eq_zero_iff.1 (by omega)
    subst this
    refine Ev.succ ?_
    simp only [doc_Part.l0]
    refine Ev.neg (by rw [ha]; simp; omega) (Ev.val rfl)
  | x :: ra, [], da, db, i, ha, hb, hd, ei => by
    rw [ha, hb] at hab; simp at hab; omega
  | x :: ra, y :: rb, da, db, i, ha, hb, hd, ei => by
    have hsz : a.length = da.length + (ra.length + 1) := by rw [ha]; simp
    have hw : wrap64 (i + 1) = i + 1 := wrap_in (by omega) (by omega)
    have la : ((a.map to106).length : Int) = a.length := by simp
    have lb : ((b.map to106).length : Int) = a.length := by simp [hab]
    refine Ev.succ ?_
    simp only [doc_Part.l0, hw, rd106_map a i da ra x ha ei, rd106_map b i db rb y hb (by omega)]
    refine Ev.pos (by omega) (Ev.pos (by omega) (Ev.pos (by omega) (Ev.pos (by omega) ?_)))
    by_cases he : eqP x y = true
    · refine Ev.neg ?_ ?_
      · unfold eqP at he; simp only [Bool.and_eq_true] at he
        obtain ⟨h0, h1, h2, h3, h4, h5, h6, h7, h8⟩ := he
        simp [to106, h0, h1, h2, h3, h4, h5, h6, h7, h8]
      · rw [show sameP (x :: ra) (y :: rb) = sameP ra rb from by simp [sameP, he]]
        exact doc_same_in a b hn hab ra rb (da ++ [x]) (db ++ [y]) (i + 1) (by rw [ha]; simp) (by rw [hb]; simp) (by simp [hd]) (by simp; omega)
    · refine Ev.pos ?_ (Ev.val ?_)
      · rw [Bool.not_eq_true] at he
        have h2 : (!eqP x y) = true := by rw [he]; rfl
        unfold eqP at h2
        unfold to106
        simpa only [Bool.not_and, Bool.or_assoc] using h2
      · rw [Bool.not_eq_true] at he; simp [sameP, he]
theorem ev_doc_same (a b : List S109) (hn : a.length ≤ 4000000000) (hm : b.length ≤ 4000000000) : Ev (fun k => doc_Same.f k (a.map to106) (b.map to106)) (sameP a b) := by
  unfold doc_Same.f doc_Part.f
  refine Ev.bind (a := sameP a b) ?_ (Ev.val rfl)
  by_cases h : (a.length : Int) = b.length
  · refine Ev.pos (by simpa using h) (doc_same_in a b hn (by omega) a b [] [] 0 rfl rfl rfl rfl)
  · refine Ev.neg (by simpa using h) (Ev.val ?_)
    cases hs : sameP a b with
    | false => rfl
    | true => exact absurd (by rw [sameP_length a b hs]) h
def sizesP (x : S109) : Nat := x.f4.size + x.f5.size + x.f6.size + x.f7.size + x.f0.size + x.f1.size + x.f2.size
def sumP (l : List S109) : Nat := (l.map sizesP).sum
def fewP (l : List S109) : Bool := decide (l.length ≤ 60) && decide (sumP l ≤ 3000)
theorem few_many (l : List S109) (hn : l.length ≤ 4000000000000) (h60 : 60 < l.length) : ∀ (rest done : List S109) (x i : Int), l = done ++ rest → i = done.length → Ev (fun k => tripartitelaw07_Few.l0 k l x i) false
  | [], done, x, i, hl, ei => by
    refine Ev.succ ?_
    simp only [tripartitelaw07_Few.l0]
    refine Ev.neg (by rw [hl]; simp; omega) (Ev.neg (by omega) (Ev.val rfl))
  | p :: rest, done, x, i, hl, ei => by
    have hsz : l.length = done.length + (rest.length + 1) := by rw [hl]; simp
    have hw : wrap64 (i + 1) = i + 1 := wrap_in (by omega) (by omega)
    refine Ev.succ ?_
    simp only [tripartitelaw07_Few.l0, hw]
    refine Ev.pos (by omega) (Ev.pos (by omega) ?_)
    exact few_many l hn h60 rest (done ++ [p]) _ (i + 1) (by rw [hl]; simp) (by simp; omega)
theorem few_few (l : List S109) (h60 : l.length ≤ 60) (hs : ∀ x ∈ l, sizesP x ≤ 985162418458624) : ∀ (rest done : List S109) (x i : Int), l = done ++ rest → i = done.length → x = sumP done → Ev (fun k => tripartitelaw07_Few.l0 k l x i) (decide (sumP l ≤ 3000))
  | [], done, x, i, hl, ei, ex => by
    refine Ev.succ ?_
    simp only [tripartitelaw07_Few.l0]
    refine Ev.neg (by rw [hl]; simp; omega) (Ev.pos (by omega) (Ev.val ?_))
    rw [hl, List.append_nil, ex]
    exact decide_eq_decide.2 (by omega)
  | p :: rest, done, x, i, hl, ei, ex => by
    have hsz : l.length = done.length + (rest.length + 1) := by rw [hl]; simp
    have hw : wrap64 (i + 1) = i + 1 := wrap_in (by omega) (by omega)
    have hsum : ∀ d : List S109, (∀ y ∈ d, y ∈ l) → sumP d ≤ d.length * 985162418458624 := by
      intro d
      induction d with
      | nil => intro _; simp [sumP]
      | cons y d ih =>
        intro hd
        have h1 := ih (fun z hz => hd z (by simp [hz]))
        have h2 := hs y (hd y (by simp))
        simp only [sumP, List.map_cons, List.sum_cons, List.length_cons] at h1 ⊢
        omega
    have hd := hsum done (fun y hy => by rw [hl]; simp [hy])
    have hp := hs p (by rw [hl]; simp)
    have hdl : done.length * 985162418458624 ≤ 60 * 985162418458624 := Nat.mul_le_mul_right _ (by omega)
    have hpe : sizesP p = p.f4.size + p.f5.size + p.f6.size + p.f7.size + p.f0.size + p.f1.size + p.f2.size := rfl
    refine Ev.succ ?_
    simp only [tripartitelaw07_Few.l0, hw, rd109_at l i done rest p hl ei]
    refine Ev.pos (by omega) (Ev.pos (by omega) ?_)
    refine few_few l h60 hs rest (done ++ [p]) _ (i + 1) (by rw [hl]; simp) (by simp; omega) ?_
    have e : sumP (done ++ [p]) = sumP done + sizesP p := by simp [sumP]
    rw [e]
    clear hsum hs hdl hw
    subst ex
    generalize sumP done = q at hd ⊢
    have hq : q ≤ 59109745107517440 := Nat.le_trans hd (Nat.le_trans (Nat.mul_le_mul_right _ (show done.length ≤ 60 by omega)) (by decide))
    clear hd
    rw [wrap_in (n := (q : Int) + p.f4.size) (by omega) (by omega)]
    rw [wrap_in (n := (q : Int) + p.f4.size + p.f5.size) (by omega) (by omega)]
    rw [wrap_in (n := (q : Int) + p.f4.size + p.f5.size + p.f6.size) (by omega) (by omega)]
    rw [wrap_in (n := (q : Int) + p.f4.size + p.f5.size + p.f6.size + p.f7.size) (by omega) (by omega)]
    rw [wrap_in (n := (q : Int) + p.f4.size + p.f5.size + p.f6.size + p.f7.size + p.f0.size) (by omega) (by omega)]
    rw [wrap_in (n := (q : Int) + p.f4.size + p.f5.size + p.f6.size + p.f7.size + p.f0.size + p.f1.size) (by omega) (by omega)]
    rw [wrap_in (n := (q : Int) + p.f4.size + p.f5.size + p.f6.size + p.f7.size + p.f0.size + p.f1.size + p.f2.size) (by omega) (by omega)]
    omega
theorem ev_few (l : List S109) (hn : l.length ≤ 4000000000000) (hs : ∀ x ∈ l, sizesP x ≤ 985162418458624) : Ev (fun k => tripartitelaw07_Few.f k l) (fewP l) := by
  unfold tripartitelaw07_Few.f fewP
  by_cases h : l.length ≤ 60
  · rw [decide_eq_true h, Bool.true_and]; exact few_few l h hs l [] 0 0 rfl rfl rfl
  · rw [decide_eq_false h, Bool.false_and]; exact few_many l hn (by omega) l [] 0 0 rfl rfl
theorem few_text {l : List S109} (h : fewP l = true) : l.length ≤ 60 ∧ textSum l ≤ 3000 ∧ ∀ x ∈ l, sizesP x ≤ 3000 := by
  unfold fewP at h
  simp only [Bool.and_eq_true, decide_eq_true_eq] at h
  have key : ∀ d : List S109, textSum d ≤ sumP d ∧ ∀ x ∈ d, sizesP x ≤ sumP d := by
    intro d
    induction d with
    | nil => exact ⟨by simp [textSum, sumP], fun x hx => (by cases hx)⟩
    | cons y d ih =>
      have hpe : sizesP y = y.f4.size + y.f5.size + y.f6.size + y.f7.size + y.f0.size + y.f1.size + y.f2.size := rfl
      refine ⟨?_, fun x hx => ?_⟩
      · have := ih.1
        simp only [textSum, sumP, List.map_cons, List.sum_cons] at this ⊢
        omega
      · rcases List.mem_cons.1 hx with rfl | hx
        · simp only [sumP, List.map_cons, List.sum_cons]; omega
        · have := ih.2 x hx
          simp only [sumP, List.map_cons, List.sum_cons] at this ⊢; omega
  have h1 := key l
  exact ⟨h.1, by omega, fun x hx => by have := h1.2 x hx; omega⟩
end Go.Proofs.Ytfiamddinkokbaa.F
end

section
set_option linter.unusedVariables false
set_option linter.unusedSimpArgs false
namespace Go.Proofs.Ytfiamddinkokbaa.F
open Go.RowKit Go.Proofs.YtfiamddinkokbaaW.PrintWords Go.Proofs.YtfiamddinkokbaaW.PrintLast Go.Proofs.YtfiamddinkokbaaW.PrintMore
set_option linter.unusedVariables false
set_option linter.unusedSimpArgs false
theorem small_sizes {x : S109} (h : small109 x) : sizesP x ≤ 985162418458624 := by
  unfold small109 at h; unfold sizesP; omega
theorem pureDocJoins (l0 l1 : List S109) (w0 : ∀ x ∈ l0, small109 x) (y0 : l0.length ≤ 1954687338182) (w1 : ∀ x ∈ l1, small109 x) (y1 : l1.length ≤ 1954687338182) : ∃ k, tripartitelaw07_DocJoins.f k l0 l1 = some true := by
  refine Ev.get ?_
  unfold tripartitelaw07_DocJoins.f
  have told : Ev (fun k => tripartitelaw07_DocJoins.j0 k l0 l1 true) true := by
    refine Ev.succ ?_
    simp only [tripartitelaw07_DocJoins.j0]
    exact Ev.pos (by trivial) (Ev.bind ev_told07 (Ev.val rfl))
  refine Ev.bind (ev_few l0 (by omega) (fun x hx => small_sizes (w0 x hx))) ?_
  by_cases h0 : fewP l0 = true
  · refine Ev.pos h0 (Ev.bind (ev_few l1 (by omega) (fun x hx => small_sizes (w1 x hx))) ?_)
    by_cases h1 : fewP l1 = true
    · obtain ⟨n0, t0, _⟩ := few_text h0
      obtain ⟨n1, t1, _⟩ := few_text h1
      obtain ⟨nb, tb⟩ := of_bound l0
      have tq : textSum (ofP l0) ≤ 60 * 3000 := by
        have key : ∀ d : List S109, (∀ x ∈ d, x.f4.size ≤ 3000) → textSum d ≤ d.length * 3000 := by
          intro d
          induction d with
          | nil => intro _; simp [textSum]
          | cons y d ih =>
            intro hd
            have h1 := ih (fun z hz => hd z (by simp [hz]))
            have h2 := hd y (by simp)
            simp only [textSum, List.map_cons, List.sum_cons, List.length_cons] at h1 ⊢
            omega
        have hk := key (ofP l0) (fun x hx => by have := tb x hx; omega)
        clear key tb told
        exact Nat.le_trans hk (Nat.mul_le_mul_right _ (by omega))
      rw [h1]
      refine Ev.succ ?_
      simp only [tripartitelaw07_DocJoins.j0]
      refine Ev.neg (by decide) ?_
      refine Ev.bind (ev_to l0 (by omega)) (Ev.bind (ev_doc_of l0 (by omega) (by omega)) (Ev.bind ev_told07 (Ev.pos rfl ?_)))
      refine Ev.bind (ev_from _ (by simp; omega)) (Ev.bind (ev_ref_of l0 (by omega) (by omega)) ?_)
      rw [map_to109]
      refine Ev.bind (ev_ref_same _ _ (by omega) (by omega)) (Ev.pos (sameP_refl _) ?_)
      refine Ev.bind (ev_from _ (by simp; omega)) ?_
      rw [map_to109]
      refine Ev.bind (ev_ref_same _ _ (by omega) (by omega)) (Ev.pos (sameP_refl _) ?_)
      refine Ev.bind (ev_to l1 (by omega)) (Ev.bind (ev_doc_same l0 l1 (by omega) (by omega)) (Ev.bind (ev_ref_same l0 l1 (by omega) (by omega)) (Ev.pos (by simp) ?_)))
      refine Ev.bind (ev_doc_of (ofP l0) (by omega) (by omega)) ?_
      rw [of_of]
      exact Ev.bind (ev_doc_same _ _ (by omega) (by omega)) (Ev.val (sameP_refl _))
    · rw [Bool.not_eq_true] at h1
      rw [h1]; exact told
  · exact Ev.neg h0 told
end Go.Proofs.Ytfiamddinkokbaa.F
namespace Go.Proofs.Ytfiamddinkokbaa
open Go.Proofs.Ytfiamddinkokbaa.F
theorem Pure.DocJoins (l0 l1 : List S109) (w0 : ∀ x ∈ l0, small109 x) (y0 : l0.length ≤ 1954687338182) (w1 : ∀ x ∈ l1, small109 x) (y1 : l1.length ≤ 1954687338182) : ∃ k, tripartitelaw07_DocJoins.f k l0 l1 = some true :=
  pureDocJoins l0 l1 w0 y0 w1 y1
end Go.Proofs.Ytfiamddinkokbaa
end
