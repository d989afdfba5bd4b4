/- Texts joined into one file (wip/tools/pack.py): Open, Pure, Pure01, Pure07, PureOf, PureLines, PureMark, PureMark2, PureDoc, PureDoc2, PureMarkReads, PureDocJoins, PureMarkPrints -/
import Derived.Test.YtfiamddinkokbaaMP1
import Derived.SliceStrings
import Derived.SizedLaws
import Derived.Deep.Slices
import Derived.Deep.Fields
import Derived.ChangeSame
import Derived.Lib.SmallJoins
import Derived.Test.YtfiamddinkokbaaMP3
import Derived.Test.YtfiamddinkokbaaMP4
import Derived.Test.YtfiamddinkokbaaMP2
import Derived.Test.YtfiamddinkokbaaMP5
section
set_option linter.unusedVariables false
set_option linter.unusedSimpArgs false
namespace Go.Proofs.Ytfiamddinkokbaa.F
open Go.RowKit Go.Proofs.YtfiamddinkokbaaW.PrintWords Go.ChangeShapes Go.WideShapes Go.Deep Go.Joins
set_option linter.unusedVariables false
set_option linter.unusedSimpArgs false
section
variable {H : Type} {enc : TypeId × Value → H} {P : Program} {W : World} {base : Nat} {spare : Nat → Bool} {held : Bool}
end
section
variable {H : Type} {enc : TypeId × Value → H} {P : Program} {w : World} {base : Nat} {spare : Nat → Bool} {held : Bool}
theorem open_slice_fields {t e : TypeId} {fs : Array Field} {fuel : Nat} {cs : List Value} {x : DataW H × List MemPlace} (ht : P.underlying t = some (.slice e)) (he : P.underlying e = some (.struct fs))
    (hone : oneCellFields P fs = true) (hC : P.cellsOf e = fs.size) (h : DataW.trod enc P w base spare held fuel t cs = some x) :
    (cs = [.slice none 0 0] ∧ x = (.nil, [])) ∨
    ∃ (a : Addr) (len cap m : Nat) (D : Nat → DataW H) (Pl : Nat → List MemPlace), cs = [.slice (some a) len cap] ∧ base ≤ a.block ∧ len ≤ cap ∧ cap ≤ maxLen ∧ m = (if spare a.block then cap else len) ∧
      x = (.slice ((List.range len).map D) ((List.range (m - len)).map fun j => D (len + j)), MemPlace.row a (m * fs.size) ++ (List.range m).flatMap Pl) ∧
      ∀ i, i < m → ∃ (ys : List (DataW H × List MemPlace)) (n : Nat), D i = .agg (ys.map (·.1)) ∧ Pl i = ys.flatMap (·.2) ∧ ys.length = fs.size ∧
        ∀ (j : Nat) (f : Field), fs[j]? = some f → ∃ (v : Value) (y : DataW H × List MemPlace), w.cell? (a.add (i * fs.size + j)) = some v ∧ ys[j]? = some y ∧ DataW.trod enc P w base spare held n f.type [v] = some y := by
  rcases open_slice ht h with h0 | ⟨a, len, cap, m, n, D, Pl, hcs, hb, hl, hm, hmm, hx, hi⟩
  · exact .inl h0
  · refine .inr ⟨a, len, cap, m, D, Pl, hcs, hb, hl, hm, hmm, by rw [hC] at hx; exact hx, fun i him => ?_⟩
    obtain ⟨cs', hc, ht'⟩ := hi i him
    rw [hC] at hc
    obtain ⟨ys, n', hn', hy, hlen, hyl, hf⟩ := DataW.trod_struct he ht'
    obtain ⟨_, hcl, hat⟩ := World.cells?_some hc
    simp only [Prod.mk.injEq] at hy
    refine ⟨ys, n', hy.1, hy.2, hyl, fun j f hj => ?_⟩
    obtain ⟨ho, hk⟩ := hone_of hone j f hj
    have hjl : j < fs.size := (Array.getElem?_eq_some_iff.1 hj).1
    have hcell := hat j hjl
    have hv : cs'[j]? = some (cs'[j]'(by omega)) := List.getElem?_eq_getElem (by omega)
    have h1 := hf j f hj
    rw [ho, hk] at h1
    have hone' : (cs'.drop j).take 1 = [cs'[j]'(by omega)] := by
      rw [List.drop_eq_getElem_cons (by omega)]
      rfl
    rw [hone'] at h1
    have hys : ys[j]? = some (ys[j]'(by omega)) := List.getElem?_eq_getElem (by omega)
    refine ⟨_, _, ?_, hys, h1.trans hys⟩
    rw [← Go.Deep.add_add, hcell, hv]
end
def small109 (x : S109) : Prop := x.f0.size ≤ 140737488351232 ∧ x.f1.size ≤ 140737488351232 ∧ x.f2.size ≤ 140737488351232 ∧ x.f4.size ≤ 140737488351232 ∧ x.f5.size ≤ 140737488351232 ∧ x.f6.size ≤ 140737488351232 ∧ x.f7.size ≤ 140737488351232
section
variable {H : Type} {enc : TypeId × Value → H} {W : World} {base : Nat} {spare : Nat → Bool} {held : Bool}
theorem weights_all_mem {P : Program} {e : TypeId} {n : Nat} : ∀ (l : List (DataW H)) (d : DataW H), d ∈ l → n ∈ d.weights P e → n ∈ DataW.weightsAll P e l
  | d' :: r, d, hm, hn => by
    simp only [DataW.weightsAll, List.mem_append]
    rcases List.mem_cons.1 hm with rfl | hm
    · exact .inl hn
    · exact .inr (weights_all_mem r d hm hn)
theorem open_parts {A : Option Addr} {n c : Nat} {d : DataW H} {p : List MemPlace} {ts : List TypeId} {ds : List (DataW H)} {j : Nat}
    (hsz : (DataW.weightsEach Try.prog ts ds).all (· ≤ reachBytes) = true) (htj : ts[j]? = some 26) (hdj : ds[j]? = some d)
    (h : DataW.Trod enc Try.prog W base spare held 26 (.slice A n c) d p) :
    ∃ l : List S109, n = l.length ∧ Kd.C k109 W A l.length l ∧ l.length ≤ c ∧ l.length ≤ 1954687338182 ∧ ∀ x ∈ l, small109 x := by
  obtain ⟨fuel, hf⟩ := h
  have hu := Try.underlying26
  have hs := Try.underlying109
  have hus := Try.underlying9
  have hub := Try.underlying4
  have hr : reachBytes = 140737488351232 := rfl
  have hsz9 : ∀ {α : Type} (x : α), [x].length = 1 := fun _ => rfl
  rcases open_slice_fields hu hs (by kernel_rfl) (by kernel_rfl) hf with ⟨hcs, _⟩ | ⟨a, len, cap, m, D, Pl, hcs, _, hl, hm, hmm, hx, hi⟩
  · simp [Value.cells] at hcs
    obtain ⟨rfl, rfl, rfl⟩ := hcs
    exact ⟨[], rfl, Kd.C_nil _ _, by simp, by simp, by simp⟩
  · simp [Value.cells] at hcs
    obtain ⟨rfl, rfl, rfl⟩ := hcs
    obtain ⟨hx1, hx2⟩ := Prod.mk.inj hx
    subst hx1
    have hle : n ≤ m := by rw [hmm]; split <;> omega
    have z := sized_slice hsz htj hdj hu
    have hbytes : Try.prog.bytesOf 109 = 128 := by kernel_rfl
    simp only [List.length_map, List.length_range, hbytes, hr] at z
    have each : ∀ i, i < n → ∃ x : S109, D i = .agg [.lit (.string x.f0.data.toList), .lit (.string x.f1.data.toList), .lit (.string x.f2.data.toList), .lit (.bool x.f3), .lit (.string x.f4.data.toList), .lit (.string x.f5.data.toList), .lit (.string x.f6.data.toList), .lit (.string x.f7.data.toList), .lit (.bool x.f8)] ∧
        ∀ j v, [Value.string x.f0, .string x.f1, .string x.f2, .bool x.f3, .string x.f4, .string x.f5, .string x.f6, .string x.f7, .bool x.f8][j]? = some v → W.cell? (a.add (i * 9 + j)) = some v := by
      intro i hin
      obtain ⟨ys, n', hD, _, hyl, hg⟩ := hi i (by omega)
      obtain ⟨v0, y0, c0, e0, t0⟩ := hg 0 _ rfl
      obtain ⟨v1, y1, c1, e1, t1⟩ := hg 1 _ rfl
      obtain ⟨v2, y2, c2, e2, t2⟩ := hg 2 _ rfl
      obtain ⟨v3, y3, c3, e3, t3⟩ := hg 3 _ rfl
      obtain ⟨v4, y4, c4, e4, t4⟩ := hg 4 _ rfl
      obtain ⟨v5, y5, c5, e5, t5⟩ := hg 5 _ rfl
      obtain ⟨v6, y6, c6, e6, t6⟩ := hg 6 _ rfl
      obtain ⟨v7, y7, c7, e7, t7⟩ := hg 7 _ rfl
      obtain ⟨v8, y8, c8, e8, t8⟩ := hg 8 _ rfl
      obtain ⟨s0, h0, rfl, _⟩ := DataW.trod_string hus t0
      obtain ⟨s1, h1, rfl, _⟩ := DataW.trod_string hus t1
      obtain ⟨s2, h2, rfl, _⟩ := DataW.trod_string hus t2
      obtain ⟨s3, h3, rfl⟩ := DataW.trod_bool hub t3
      obtain ⟨s4, h4, rfl, _⟩ := DataW.trod_string hus t4
      obtain ⟨s5, h5, rfl, _⟩ := DataW.trod_string hus t5
      obtain ⟨s6, h6, rfl, _⟩ := DataW.trod_string hus t6
      obtain ⟨s7, h7, rfl, _⟩ := DataW.trod_string hus t7
      obtain ⟨s8, h8, rfl⟩ := DataW.trod_bool hub t8
      obtain rfl := List.singleton_inj.1 h0
      obtain rfl := List.singleton_inj.1 h1
      obtain rfl := List.singleton_inj.1 h2
      obtain rfl := List.singleton_inj.1 h3
      obtain rfl := List.singleton_inj.1 h4
      obtain rfl := List.singleton_inj.1 h5
      obtain rfl := List.singleton_inj.1 h6
      obtain rfl := List.singleton_inj.1 h7
      obtain rfl := List.singleton_inj.1 h8
      refine ⟨⟨s0, s1, s2, s3, s4, s5, s6, s7, s8⟩, ?_, ?_⟩
      · rw [hD]
        have hl9 : ys.length = 9 := hyl
        match ys, hl9 with
        | [z0, z1, z2, z3, z4, z5, z6, z7, z8], _ =>
          simp at e0 e1 e2 e3 e4 e5 e6 e7 e8
          subst e0 e1 e2 e3 e4 e5 e6 e7 e8
          rfl
      · intro j v hv
        match j, hv with
        | 0, hv => simp at hv; subst hv; exact c0
        | 1, hv => simp at hv; subst hv; exact c1
        | 2, hv => simp at hv; subst hv; exact c2
        | 3, hv => simp at hv; subst hv; exact c3
        | 4, hv => simp at hv; subst hv; exact c4
        | 5, hv => simp at hv; subst hv; exact c5
        | 6, hv => simp at hv; subst hv; exact c6
        | 7, hv => simp at hv; subst hv; exact c7
        | 8, hv => simp at hv; subst hv; exact c8
    obtain ⟨E, hE⟩ : ∃ E : Nat → S109, ∀ i, i < n → D i = .agg [.lit (.string (E i).f0.data.toList), .lit (.string (E i).f1.data.toList), .lit (.string (E i).f2.data.toList), .lit (.bool (E i).f3), .lit (.string (E i).f4.data.toList), .lit (.string (E i).f5.data.toList), .lit (.string (E i).f6.data.toList), .lit (.string (E i).f7.data.toList), .lit (.bool (E i).f8)] ∧
        ∀ j v, [Value.string (E i).f0, .string (E i).f1, .string (E i).f2, .bool (E i).f3, .string (E i).f4, .string (E i).f5, .string (E i).f6, .string (E i).f7, .bool (E i).f8][j]? = some v → W.cell? (a.add (i * 9 + j)) = some v :=
      ⟨fun i => if h : i < n then (each i h).choose else z109, fun i h => by simp only [dif_pos h]; exact (each i h).choose_spec⟩
    have hlen : ((List.range n).map E).length = n := by simp
    refine ⟨(List.range n).map E, hlen.symm, ⟨rfl, ?_, fun _ => ⟨a, rfl, ?_⟩⟩, by omega, by omega, ?_⟩
    · have : maxLen = 9223372036854775807 := rfl
      omega
    · intro j x hj
      obtain ⟨hjn, rfl⟩ : j < n ∧ E j = x := by
        rw [List.getElem?_map] at hj
        by_cases h : j < n
        · rw [List.getElem?_range h] at hj; exact ⟨h, by simpa using hj⟩
        · rw [List.getElem?_eq_none (by simp; omega)] at hj; simp at hj
      exact ⟨_, rfl, k109_mk W (E j), fun i u hu => (hE j hjn).2 i u hu⟩
    · intro x hx
      obtain ⟨i, hin, rfl⟩ := List.mem_map.1 hx
      have hin := List.mem_range.1 hin
      have hD := (hE i hin).1
      have hmem : ∀ (q : Nat) (s : ByteArray), [(.lit (.string (E i).f0.data.toList) : DataW H), .lit (.string (E i).f1.data.toList), .lit (.string (E i).f2.data.toList), .lit (.bool (E i).f3), .lit (.string (E i).f4.data.toList), .lit (.string (E i).f5.data.toList), .lit (.string (E i).f6.data.toList), .lit (.string (E i).f7.data.toList), .lit (.bool (E i).f8)][q]? = some (.lit (.string s.data.toList)) → q < 9 → s.size ≤ 140737488351232 := by
        intro q s hq hq9
        have h1 : s.data.toList.length ∈ DataW.weights Try.prog 109 (D i) := by
          rw [hD]
          simp only [DataW.weights, hs]
          refine DataW.weights_mem_each (j := q) (t := ([9, 9, 9, 4, 9, 9, 9, 9, 4] : List TypeId).getD q 0) ?_ hq _ (by simp [DataW.weights])
          match q, hq9 with
          | 0, _ => rfl
          | 1, _ => rfl
          | 2, _ => rfl
          | 3, _ => rfl
          | 4, _ => rfl
          | 5, _ => rfl
          | 6, _ => rfl
          | 7, _ => rfl
          | 8, _ => rfl
        have h2 : s.data.toList.length ∈ DataW.weights Try.prog 26 (DataW.slice ((List.range n).map D) ((List.range (m - n)).map fun j => D (n + j))) := by
          simp only [DataW.weights, hu]
          exact List.mem_cons_of_mem _ (List.mem_append_left _ (weights_all_mem _ (D i) (List.mem_map.2 ⟨i, List.mem_range.2 hin, rfl⟩) h1))
        have := List.all_eq_true.1 hsz _ (DataW.weights_mem_each htj hdj _ h2)
        rw [Array.length_toList] at this
        simpa [hr] using this
      exact ⟨hmem 0 _ rfl (by omega), hmem 1 _ rfl (by omega), hmem 2 _ rfl (by omega), hmem 4 _ rfl (by omega), hmem 5 _ rfl (by omega), hmem 6 _ rfl (by omega), hmem 7 _ rfl (by omega)⟩
end
end Go.Proofs.Ytfiamddinkokbaa.F
end

section
set_option linter.unusedVariables false
set_option linter.unusedSimpArgs false
namespace Go.Proofs.Ytfiamddinkokbaa
open Go.RowKit Go.Proofs.YtfiamddinkokbaaW.PrintWords
set_option linter.unusedVariables false
def Ev {α : Type} (F : Nat → Option α) (v : α) : Prop := ∃ K, ∀ k, K ≤ k → F k = some v
namespace Ev
variable {α β : Type} {F G : Nat → Option α} {H : Nat → α → Option β} {v a : α} {b : β}
theorem get (h : Ev F v) : ∃ k, F k = some v := let ⟨K, hK⟩ := h; ⟨K, hK K (Nat.le_refl K)⟩
theorem val {x : α} (h : x = v) : Ev (fun _ => some x) v := ⟨0, fun _ _ => by rw [h]⟩
theorem const {o : Option α} (h : o = some v) : Ev (fun _ => o) v := ⟨0, fun _ _ => h⟩
theorem of_mono (hm : ∀ k, LeO (F k) (F (k + 1))) {k : Nat} (h : F k = some v) : Ev F v := ⟨k, fun j hj => by
  induction hj with
  | refl => exact h
  | step _ ih => exact hm _ _ ih⟩
theorem succ (h : Ev (fun k => F (k + 1)) v) : Ev F v := let ⟨K, hK⟩ := h; ⟨K + 1, fun k hk => by
  obtain ⟨j, rfl⟩ : ∃ j, k = j + 1 := ⟨k - 1, by omega⟩
  exact hK j (by omega)⟩
theorem pos {c : Prop} [Decidable c] (hc : c) (h : Ev F v) : Ev (fun k => if c then F k else G k) v := by simpa only [if_pos hc] using h
theorem neg {c : Prop} [Decidable c] (hc : ¬ c) (h : Ev G v) : Ev (fun k => if c then F k else G k) v := by simpa only [if_neg hc] using h
theorem bind {F : Nat → Option α} (h : Ev F a) (h' : Ev (fun k => H k a) b) : Ev (fun k => (F k).bind (H k)) b := by
  obtain ⟨K, hK⟩ := h
  obtain ⟨L, hL⟩ := h'
  refine ⟨max K L, fun k hk => ?_⟩
  show (F k).bind (H k) = some b
  rw [hK k (by omega)]
  exact hL k (by omega)
theorem cast (h : Ev F a) (e : a = v) : Ev F v := e ▸ h
end Ev
theorem wrap_in {n : Int} (h0 : -9223372036854775808 ≤ n) (h1 : n ≤ 9223372036854775807) : wrap64 n = n := by unfold wrap64; omega
theorem size_data (s : ByteArray) : s.data.toList.length = s.size := Array.length_toList
theorem bytes_toList (s : ByteArray) : s.toList = s.data.toList := by
  exact ByteArray.toList_eq s
theorem bytes_bt (s : ByteArray) (i : Int) (xs ys : List UInt8) (c : UInt8) (h : s.data.toList = xs ++ c :: ys) (hi : i = xs.length) : bt s i = (c.toNat : Int) := by
  have hs : xs.length < s.size := by rw [← size_data, h]; simp
  subst hi
  unfold bt
  rw [dif_pos (by simpa using hs)]
  have : s.data.toList[xs.length]? = some c := by rw [h]; simp
  have h2 := getElem?_byte s xs.length hs
  rw [this] at h2
  have h3 : s[xs.length] = c := (Option.some.inj h2).symm
  simp only [Int.toNat_natCast, h3]
theorem extract_at (s : ByteArray) (i j : Int) (xs ys zs : List UInt8) (h : s.data.toList = xs ++ ys ++ zs) (hi : i = xs.length) (hj : j = xs.length + ys.length) : s.extract i.toNat j.toNat = toB ys := by
  subst hi hj
  have hd : (s.extract (xs.length : Int).toNat ((xs.length : Int) + ys.length).toNat).data.toList = ys := by
    rw [ByteArray.data_extract, Array.toList_extract, h]
    simp [Int.toNat_natCast]
    rw [show ((xs.length : Int) + ys.length).toNat = xs.length + ys.length from by omega]
    simp
  rw [← toB_data (s.extract _ _), hd]
theorem size_toB (l : List UInt8) : (toB l).size = l.length := by rw [← size_data, data_toB]
theorem bytes_ext {a b : ByteArray} (h : a.data.toList = b.data.toList) : a = b := by rw [← toB_data a, h, toB_data]
theorem rdOf_at {α : Type} (d : α) (l : List α) (i : Int) (xs ys : List α) (c : α) (h : l = xs ++ c :: ys) (hi : i = xs.length) : rdOf d l i = c := by
  subst h hi
  unfold rdOf
  simp [Int.toNat_natCast, List.getD_eq_getElem?_getD]
end Go.Proofs.Ytfiamddinkokbaa
end

section
set_option linter.unusedVariables false
set_option linter.unusedSimpArgs false
namespace Go.Proofs.Ytfiamddinkokbaa.F
open Go.RowKit Go.Proofs.YtfiamddinkokbaaW.PrintWords Go.Proofs.YtfiamddinkokbaaW.PrintLast Go.Proofs.YtfiamddinkokbaaW.PrintMore
set_option linter.unusedVariables false
set_option linter.unusedSimpArgs false
theorem takeLine_line : ∀ (p : List UInt8) (rest : List UInt8), (10 : UInt8) ∉ p → takeLine (p ++ 10 :: rest) = p ++ [10] ∧ dropLine (p ++ 10 :: rest) = rest
  | [], rest, _ => by simp [takeLine, dropLine]
  | c :: p, rest, h => by
    have hc : c ≠ 10 := fun e => h (by simp [e])
    have ih := takeLine_line p rest (fun e => h (by simp [e]))
    simp [takeLine, dropLine, hc, ih.1, ih.2]
theorem splitL_line (p : List UInt8) (rest : List UInt8) (h : (10 : UInt8) ∉ p) : splitL (p ++ 10 :: rest) = (p ++ [10]) :: splitL rest := by
  rw [splitL_next _ (by simp), (takeLine_line p rest h).1, (takeLine_line p rest h).2]
theorem splitL_last : ∀ (p : List UInt8), p ≠ [] → (10 : UInt8) ∉ p → splitL p = [p]
  | [], hp, _ => absurd rfl hp
  | c :: p, _, h => by
    have hc : c ≠ 10 := fun e => h (by simp [e])
    by_cases hp : p = []
    · subst hp; simp [splitL, hc]
    · have ih := splitL_last p hp (fun e => h (by simp [e]))
      simp [splitL, hc, ih]
theorem byte_ne {c : UInt8} {n : Nat} (hn : n < 256) (h : ¬ (c.toNat : Int) = n) : c ≠ (UInt8.ofNat n) := fun e => h (by rw [e]; simp [UInt8.toNat_ofNat]; omega)
theorem byte_eq {c : UInt8} {n : Nat} (hn : n < 256) (h : (c.toNat : Int) = n) : c = (UInt8.ofNat n) := UInt8.toNat.inj (by simp; omega)
theorem split_l0 (a : ByteArray) (hs : a.size ≤ 4000000000) : ∀ (rest done p : List UInt8) (x3 : List ByteArray) (s i : Int), a.data.toList = done ++ p ++ rest → (10 : UInt8) ∉ p → x3.length ≤ done.length → (rest = [] → p = []) →
    s = done.length → i = done.length + p.length → Ev (fun k => tripartiteref01_Split.l0 k a x3 s i) (x3 ++ (splitL (p ++ rest)).map toB)
  | [], done, p, x3, s, i, ha, hp, hx, hr, es, ei => by
    obtain rfl := hr rfl
    have hsz : a.size = done.length := by rw [← size_data, ha]; simp
    refine Ev.succ ?_
    simp only [tripartiteref01_Split.l0]
    refine Ev.neg (by simp at ei; omega) (Ev.val (by simp [splitL]))
  | c :: rest, done, p, x3, s, i, ha, hp, hx, hr, es, ei => by
    have hsz : a.size = done.length + p.length + (rest.length + 1) := by rw [← size_data, ha]; simp; omega
    have hw : wrap64 (i + 1) = i + 1 := wrap_in (by omega) (by omega)
    have hb : bt a i = (c.toNat : Int) := bytes_bt a i (done ++ p) rest c (by rw [ha]) (by simp; omega)
    have hex : a.extract (s : Int).toNat (i + 1 : Int).toNat = toB (p ++ [c]) := extract_at a s (i + 1) done (p ++ [c]) rest (by rw [ha]; simp) es (by simp; omega)
    refine Ev.succ ?_
    simp only [tripartiteref01_Split.l0, hw, hb, hex]
    refine Ev.pos (by omega) (Ev.pos (by omega) ?_)
    by_cases hc : (c.toNat : Int) = 10
    · have hc' : c = 10 := byte_eq (n := 10) (by decide) hc
      subst hc'
      refine Ev.pos hc (Ev.pos (by omega) (Ev.pos (by omega) (Ev.pos (by omega) (Ev.pos (by omega) ?_))))
      refine (split_l0 a hs rest (done ++ p ++ [10]) [] _ _ _ (by rw [ha]; simp) (by simp) (by simp; omega) (fun _ => rfl) (by simp; omega) (by simp; omega)).cast ?_
      rw [splitL_line p rest hp]; simp
    · have hc' : c ≠ 10 := byte_ne (n := 10) (by decide) hc
      refine Ev.neg hc ?_
      have hp' : (10 : UInt8) ∉ p ++ [c] := by simp [hp]; exact fun e => hc' e.symm
      cases rest with
      | nil =>
        refine Ev.pos (by simp at hsz; omega) (Ev.pos (by omega) (Ev.pos (by omega) (Ev.pos (by omega) (Ev.pos (by omega) ?_))))
        refine (split_l0 a hs [] (done ++ p ++ [c]) [] _ _ _ (by rw [ha]; simp) (by simp) (by simp; omega) (fun _ => rfl) (by simp; omega) (by simp; omega)).cast ?_
        rw [splitL_last (p ++ [c]) (by simp) hp']; simp [splitL]
      | cons d rest =>
        refine Ev.neg (by simp at hsz; omega) ?_
        refine (split_l0 a hs (d :: rest) done (p ++ [c]) _ _ _ (by rw [ha]; simp) hp' hx (fun h => by cases h) es (by simp; omega)).cast ?_
        simp
theorem ref_split (a : ByteArray) (hs : a.size ≤ 4000000000) : Ev (fun k => tripartiteref01_Split.f k a) (splitB a) :=
  (split_l0 a hs a.data.toList [] [] [] 0 0 (by simp) (by simp) (by simp) (fun _ => rfl) rfl rfl).cast (by simp [splitB])
def runI (s : ByteArray) : Int := (runL s.data.toList : Nat)
theorem isEmpty_toList (s : ByteArray) : s.toList = [] ↔ s.data.toList = [] := by rw [bytes_toList]
theorem run_l0 (a : ByteArray) (hs : a.size ≤ 4000000000) (c0 : UInt8) (t : List UInt8) (h0 : a.data.toList = c0 :: t) : ∀ (rest done : List UInt8) (i : Int), a.data.toList = done ++ rest → (∀ x ∈ done, x = c0) → i = done.length →
    Ev (fun k => tripartiteref01_Run.l0 k a i) ((a.size - (cutL c0 a.data.toList).length : Nat) : Int)
  | [], done, i, ha, hd, ei => by
    have hsz : a.size = done.length := by rw [← size_data, ha]; simp
    refine Ev.succ ?_
    simp only [tripartiteref01_Run.l0]
    refine Ev.neg (by omega) (Ev.val ?_)
    have : cutL c0 a.data.toList = [] := by
      rw [ha, List.append_nil]; unfold cutL; rw [← List.append_nil done, List.dropWhile_append_of_pos (fun x hx => by simp [hd x hx])]; rfl
    rw [this]; simp; omega
  | c :: rest, done, i, ha, hd, ei => by
    have hsz : a.size = done.length + (rest.length + 1) := by rw [← size_data, ha]; simp
    have hw : wrap64 (i + 1) = i + 1 := wrap_in (by omega) (by omega)
    have hb : bt a i = (c.toNat : Int) := bytes_bt a i done rest c ha ei
    have hb0 : bt a 0 = (c0.toNat : Int) := bytes_bt a 0 [] t c0 h0 rfl
    refine Ev.succ ?_
    simp only [tripartiteref01_Run.l0, hw, hb, hb0]
    refine Ev.pos (by omega) (Ev.pos (by omega) (Ev.pos (by omega) ?_))
    by_cases hc : (c.toNat : Int) = (c0.toNat : Int)
    · have hc' : c = c0 := UInt8.toNat.inj (by omega)
      refine Ev.pos hc ?_
      exact run_l0 a hs c0 t h0 rest (done ++ [c]) (i + 1) (by rw [ha]; simp) (fun x hx => by
        rcases List.mem_append.1 hx with h | h
        · exact hd x h
        · rw [List.mem_singleton.1 h]; exact hc') (by simp; omega)
    · refine Ev.neg hc (Ev.val ?_)
      have hc' : c ≠ c0 := fun e => hc (by rw [e])
      have : cutL c0 a.data.toList = c :: rest := by
        unfold cutL
        rw [ha, List.dropWhile_append_of_pos (fun x hx => by simp [hd x hx])]
        have : (c == c0) = false := by simpa using hc'
        simp [List.dropWhile, this]
      rw [this]; simp; omega
theorem ref_run (a : ByteArray) (hs : a.size ≤ 4000000000) : Ev (fun k => tripartiteref01_Run.f k a) (runI a) := by
  unfold tripartiteref01_Run.f
  by_cases he : a.toList = []
  · refine Ev.pos he (Ev.succ ?_)
    simp only [tripartiteref01_Run.j0]
    refine Ev.pos (by trivial) (Ev.val ?_)
    unfold runI; rw [(isEmpty_toList a).1 he]; rfl
  · refine Ev.neg he ?_
    obtain ⟨c, t, h⟩ : ∃ c t, a.data.toList = c :: t := List.exists_cons_of_ne_nil (fun e => he ((isEmpty_toList a).2 e))
    have hsz : a.size = t.length + 1 := by rw [← size_data, h]; simp
    have hb0 : bt a 0 = (c.toNat : Int) := bytes_bt a 0 [] t c h rfl
    have hl := run_l0 a hs c t h a.data.toList [] 0 (by simp) (by simp) rfl
    have key : ∀ b : Bool, (b = false ↔ isSign c = true) → Ev (fun k => tripartiteref01_Run.j0 k a b) (runI a) := by
      intro b hb
      refine Ev.succ ?_
      simp only [tripartiteref01_Run.j0]
      cases b with
      | true =>
        refine Ev.pos (by trivial) (Ev.val ?_)
        have : isSign c = false := by
          cases hq : isSign c with
          | false => rfl
          | true => exact absurd (hb.2 hq) (by decide)
        unfold runI runL; rw [h]; simp [this]
      | false =>
        refine Ev.neg (by decide) (hl.cast ?_)
        have := hb.1 rfl
        unfold runI runL; rw [h]; simp [this, hsz]
    have s60 : ∀ n : Nat, n < 256 → (c.toNat : Int) = n → c = UInt8.ofNat n := fun n hn e => byte_eq hn e
    simp only [hb0]
    refine Ev.pos (by omega) ?_
    by_cases h60 : (c.toNat : Int) = 60
    · refine Ev.pos h60 (key _ ?_); rw [s60 60 (by decide) h60]; decide
    refine Ev.neg h60 ?_
    by_cases h124 : (c.toNat : Int) = 124
    · refine Ev.pos h124 (key _ ?_); rw [s60 124 (by decide) h124]; decide
    refine Ev.neg h124 ?_
    by_cases h61 : (c.toNat : Int) = 61
    · refine Ev.pos h61 (key _ ?_); rw [s60 61 (by decide) h61]; decide
    refine Ev.neg h61 (key _ ?_)
    have n60 := byte_ne (c := c) (n := 60) (by decide) h60
    have n124 := byte_ne (c := c) (n := 124) (by decide) h124
    have n61 := byte_ne (c := c) (n := 61) (by decide) h61
    have e : isSign c = (c == 62) := by
      unfold isSign
      rw [show (c == 60) = false from by simpa using n60, show (c == 124) = false from by simpa using n124, show (c == 61) = false from by simpa using n61]; simp
    rw [e]
    by_cases h62 : (c.toNat : Int) = 62
    · have := s60 62 (by decide) h62
      rw [this]; decide
    · have n62 := byte_ne (c := c) (n := 62) (by decide) h62
      have h1 : (c == 62) = false := by simpa using n62
      rw [h1]
      have h2 : ((c.toNat : Int) != 62) = true := by simpa using h62
      rw [h2]; simp
def longI (l : List ByteArray) (n : Int) : Int := l.foldl (fun n s => mx n (runI s)) n
theorem longest_l0 (l : List ByteArray) (hn : l.length ≤ 4000000000) (hs : ∀ s ∈ l, s.size ≤ 4000000000) : ∀ (rest done : List ByteArray) (x i : Int), l = done ++ rest → i = done.length → Ev (fun k => tripartiteref01_Longest.l0 k l x i) (longI rest x)
  | [], done, x, i, hl, ei => by
    refine Ev.succ ?_
    simp only [tripartiteref01_Longest.l0]
    refine Ev.neg (by rw [hl]; simp; omega) (Ev.val rfl)
  | s :: rest, done, x, i, hl, ei => by
    have hsz : l.length = done.length + (rest.length + 1) := by rw [hl]; simp
    have hw : wrap64 (i + 1) = i + 1 := wrap_in (by omega) (by omega)
    have hb : rdOf ByteArray.empty l i = s := rdOf_at _ l i done rest s hl ei
    refine Ev.succ ?_
    simp only [tripartiteref01_Longest.l0, hw, hb]
    refine Ev.pos (by omega) (Ev.pos (by omega) (Ev.bind (ref_run s (hs s (by rw [hl]; simp))) ?_))
    exact longest_l0 l hn hs rest (done ++ [s]) _ (i + 1) (by rw [hl]; simp) (by simp; omega)
theorem ref_longest (l : List ByteArray) (hn : l.length ≤ 4000000000) (hs : ∀ s ∈ l, s.size ≤ 4000000000) : Ev (fun k => tripartiteref01_Longest.f k l) (longI l 0) :=
  longest_l0 l hn hs l [] 0 0 rfl rfl
theorem lines_run (a : ByteArray) (hs : a.size ≤ 4000000000) : lines_Run.f a = some (runI a) := by unfold lines_Run.f; rw [if_pos hs]; rfl
theorem lines_split (a : ByteArray) (hs : a.size ≤ 4000000000) : lines_Split.f a = some (splitB a) := by unfold lines_Split.f; rw [if_pos hs]
def longAll (ls : List (List ByteArray)) (n : Int) : Int := ls.foldl (fun n l => longI l n) n
theorem lines_longest_in (ls : List (List ByteArray)) (hN : ls.length ≤ 4000000000) (hn : ∀ l ∈ ls, l.length ≤ 4000000000) (hs : ∀ l ∈ ls, ∀ s ∈ l, s.size ≤ 4000000000) :
    ∀ (rest done : List (List ByteArray)) (x i : Int), ls = done ++ rest → i = done.length → Ev (fun k => lines_Longest.l0 k x ls (ls.length : Int) i) (longAll rest x)
  | [], done, x, i, hl, ei => by
    refine Ev.succ ?_
    simp only [lines_Longest.l0]
    refine Ev.neg (by rw [hl]; simp; omega) (Ev.val rfl)
  | l :: rest, done, x, i, hl, ei => by
    have hsz : ls.length = done.length + (rest.length + 1) := by rw [hl]; simp
    have hw : wrap64 (i + 1) = i + 1 := wrap_in (by omega) (by omega)
    have hb : rd_L1 ls i = l := by
      unfold rd_L1; subst ei hl; simp [List.getD_eq_getElem?_getD]
    refine Ev.succ ?_
    simp only [lines_Longest.l0, hb]
    refine Ev.pos (by omega) (Ev.pos (by omega) (Ev.pos (by omega) ?_))
    have hm : l ∈ ls := by rw [hl]; simp
    have inner : ∀ (r d : List ByteArray) (x j : Int), l = d ++ r → j = d.length → Ev (fun k => lines_Longest.l1 k x ls (ls.length : Int) i l (l.length : Int) j) (longAll rest (longI r x)) := by
      intro r
      induction r with
      | nil =>
        intro d x j hd ej
        refine Ev.succ ?_
        simp only [lines_Longest.l1, hw]
        refine Ev.neg (by rw [hd]; simp; omega) ?_
        exact lines_longest_in ls hN hn hs rest (done ++ [l]) _ (i + 1) (by rw [hl]; simp) (by simp; omega)
      | cons s r ih =>
        intro d x j hd ej
        have hll := hn l hm
        have hsl : l.length = d.length + (r.length + 1) := by rw [hd]; simp
        have hwj : wrap64 (j + 1) = j + 1 := wrap_in (by omega) (by omega)
        have hbj : rdOf ByteArray.empty l j = s := rdOf_at _ l j d r s hd ej
        refine Ev.succ ?_
        simp only [lines_Longest.l1, hwj, hbj]
        refine Ev.pos (by omega) (Ev.pos (by omega) (Ev.pos (by omega) (Ev.bind (Ev.const (lines_run s (hs l hm s (by rw [hd]; simp)))) ?_)))
        exact ih (d ++ [s]) _ (j + 1) (by rw [hd]; simp) (by simp; omega)
    exact inner l [] x 0 rfl rfl
theorem lines_longest (ls : List (List ByteArray)) (hN : ls.length ≤ 4000000000) (hn : ∀ l ∈ ls, l.length ≤ 4000000000) (hs : ∀ l ∈ ls, ∀ s ∈ l, s.size ≤ 4000000000) :
    Ev (fun k => lines_Longest.f k ls) (longAll ls 0) := lines_longest_in ls hN hn hs ls [] 0 0 rfl rfl
theorem splitL_mem : ∀ (l : List UInt8) (x : List UInt8), x ∈ splitL l → x.length ≤ l.length := by
  intro l
  induction h : l.length using Nat.strongRecOn generalizing l with
  | ind n ih =>
    intro x hx
    by_cases hl : l = []
    · subst hl; simp [splitL] at hx
    · rw [splitL_next l hl] at hx
      have ht := congrArg List.length (take_drop_line l)
      rw [List.length_append] at ht
      rcases List.mem_cons.1 hx with rfl | hx
      · omega
      · have hpos : 0 < (takeLine l).length := by
          cases l with
          | nil => exact absurd rfl hl
          | cons c t => simp only [takeLine]; split <;> simp
        have := ih (dropLine l).length (by omega) (dropLine l) rfl x hx
        omega
theorem splitB_length (s : ByteArray) : (splitB s).length ≤ s.size := by
  unfold splitB; rw [List.length_map, ← size_data]; exact splitL_length_le _
theorem splitB_mem (s x : ByteArray) (h : x ∈ splitB s) : x.size ≤ s.size := by
  obtain ⟨y, hy, rfl⟩ := List.mem_map.1 h
  rw [size_toB, ← size_data]; exact splitL_mem _ _ hy
theorem runI_le (s : ByteArray) : runI s ≤ s.size := by unfold runI; have := runL_le s.data.toList; rw [size_data] at this; omega
theorem mx_cases (a b : Int) : mx a b = a ∧ b ≤ a ∨ mx a b = b ∧ a ≤ b := by unfold mx; split <;> omega
theorem longI_bound (M : Int) : ∀ (l : List ByteArray) (n : Int), n ≤ M → (∀ s ∈ l, runI s ≤ M) → n ≤ longI l n ∧ longI l n ≤ M
  | [], n, h, _ => ⟨Int.le_refl n, h⟩
  | s :: l, n, h, hs => by
    have h1 := hs s (by simp)
    have h2 : n ≤ mx n (runI s) ∧ mx n (runI s) ≤ M := by rcases mx_cases n (runI s) with ⟨e, _⟩ | ⟨e, _⟩ <;> omega
    have ih := longI_bound M l (mx n (runI s)) h2.2 (fun x hx => hs x (by simp [hx]))
    show n ≤ longI l (mx n (runI s)) ∧ longI l (mx n (runI s)) ≤ M
    omega
def textRun (s : ByteArray) : Int := longI (splitB s) 0
theorem textRun_bound (s : ByteArray) : 0 ≤ textRun s ∧ textRun s ≤ s.size :=
  longI_bound s.size (splitB s) 0 (by omega) (fun x hx => by have h1 := runI_le x; have h2 := splitB_mem s x hx; omega)
end Go.Proofs.Ytfiamddinkokbaa.F
end

section
set_option linter.unusedVariables false
set_option linter.unusedSimpArgs false
namespace Go.Proofs.Ytfiamddinkokbaa.F
open Go.RowKit Go.Proofs.YtfiamddinkokbaaW.PrintWords Go.Proofs.YtfiamddinkokbaaW.PrintLast Go.Proofs.YtfiamddinkokbaaW.PrintMore
set_option linter.unusedVariables false
set_option linter.unusedSimpArgs false
theorem ev_ref07_run (s : ByteArray) (hs : s.size ≤ 4000000000) : Ev (fun k => tripartiteref07_Run.f k s) (textRun s) := by
  unfold tripartiteref07_Run.f
  refine Ev.bind (ref_split s hs) (Ev.bind (ref_longest _ ?_ ?_) (Ev.val rfl))
  · have := splitB_length s; omega
  · intro x hx; have := splitB_mem s x hx; omega
def runAll (l : List ByteArray) (n : Int) : Int := l.foldl (fun n s => mx n (textRun s)) n
theorem doc_run_in (ls : List ByteArray) (hN : ls.length ≤ 4000000000) (hs : ∀ s ∈ ls, s.size ≤ 4000000000) :
    ∀ (rest done : List ByteArray) (x i : Int), ls = done ++ rest → i = done.length → Ev (fun k => doc_run.l0 k x ls (ls.length : Int) i) (runAll rest x)
  | [], done, x, i, hl, ei => by
    refine Ev.succ ?_
    simp only [doc_run.l0]
    refine Ev.neg (by rw [hl]; simp; omega) (Ev.val rfl)
  | s :: rest, done, x, i, hl, ei => by
    have hsz : ls.length = done.length + (rest.length + 1) := by rw [hl]; simp
    have hw : wrap64 (i + 1) = i + 1 := wrap_in (by omega) (by omega)
    have hb : rdOf ByteArray.empty ls i = s := rdOf_at _ ls i done rest s hl ei
    have hS : s.size ≤ 4000000000 := hs s (by rw [hl]; simp)
    refine Ev.succ ?_
    simp only [doc_run.l0, hw, hb]
    refine Ev.pos (by omega) (Ev.pos (by omega) (Ev.pos (by omega) (Ev.bind (Ev.const (lines_split s hS)) (Ev.bind (lines_longest [splitB s] (by simp) ?_ ?_) ?_))))
    · intro l hm; rw [List.mem_singleton.1 hm]; have := splitB_length s; omega
    · intro l hm; rw [List.mem_singleton.1 hm]; intro x hx; have := splitB_mem s x hx; omega
    · exact doc_run_in ls hN hs rest (done ++ [s]) _ (i + 1) (by rw [hl]; simp) (by simp; omega)
theorem ev_doc_run (ls : List ByteArray) (hN : ls.length ≤ 4000000000) (hs : ∀ s ∈ ls, s.size ≤ 4000000000) : Ev (fun k => doc_run.f k ls) (runAll ls 0) := doc_run_in ls hN hs ls [] 0 0 rfl rfl
end Go.Proofs.Ytfiamddinkokbaa.F
end

section
set_option linter.unusedVariables false
set_option linter.unusedSimpArgs false
namespace Go.Proofs.Ytfiamddinkokbaa.F
open Go.RowKit Go.Proofs.YtfiamddinkokbaaW.PrintWords Go.Proofs.YtfiamddinkokbaaW.PrintLast Go.Proofs.YtfiamddinkokbaaW.PrintMore
set_option linter.unusedVariables false
set_option linter.unusedSimpArgs false
def to106 (x : S109) : S106 := ⟨⟨x.f0, x.f1, x.f2⟩, x.f3, x.f4, x.f5, x.f6, x.f7, x.f8⟩
def to109 (x : S106) : S109 := ⟨x.f0.f0, x.f0.f1, x.f0.f2, x.f1, x.f2, x.f3, x.f4, x.f5, x.f6⟩
theorem map_to109 (l : List S109) : (l.map to106).map to109 = l := by
  rw [List.map_map]; exact List.map_id l
def isTextP (x : S109) : Bool := x.f0.toList.isEmpty && (x.f1.toList.isEmpty && (x.f2.toList.isEmpty && (!x.f3 && (x.f5.toList.isEmpty && (x.f6.toList.isEmpty && (x.f7.toList.isEmpty && (!x.f8)))))))
def textSum (l : List S109) : Nat := (l.map fun x => x.f4.size).sum
theorem rd106_at (l : List S106) (i : Int) (xs ys : List S106) (c : S106) (h : l = xs ++ c :: ys) (hi : i = xs.length) : rd_T106 l i = c := by
  subst h hi; unfold rd_T106; simp [List.getD_eq_getElem?_getD]
theorem rd109_at (l : List S109) (i : Int) (xs ys : List S109) (c : S109) (h : l = xs ++ c :: ys) (hi : i = xs.length) : rd_T109 l i = c := by
  subst h hi; unfold rd_T109; simp [List.getD_eq_getElem?_getD]
theorem rd106_map (l : List S109) (i : Int) (xs ys : List S109) (c : S109) (h : l = xs ++ c :: ys) (hi : i = xs.length) : rd_T106 (l.map to106) i = to106 c :=
  rd106_at _ i (xs.map to106) (ys.map to106) (to106 c) (by rw [h]; simp) (by simpa using hi)
theorem to_in (l : List S109) (hn : l.length ≤ 4000000000) : ∀ (rest done : List S109) (i : Int), l = done ++ rest → i = done.length → Ev (fun k => tripartitelaw07_To.l0 k l (done.map to106) i) (l.map to106)
  | [], done, i, hl, ei => by
    refine Ev.succ ?_
    simp only [tripartitelaw07_To.l0]
    refine Ev.neg (by rw [hl]; simp; omega) (Ev.val (by rw [hl]; simp))
  | x :: rest, done, i, hl, ei => by
    have hsz : l.length = done.length + (rest.length + 1) := by rw [hl]; simp
    have hw : wrap64 (i + 1) = i + 1 := wrap_in (by omega) (by omega)
    refine Ev.succ ?_
    simp only [tripartitelaw07_To.l0, hw, rd109_at l i done rest x hl ei]
    refine Ev.pos (by omega) (Ev.pos (by omega) (Ev.bind (Ev.const rfl) (Ev.pos (by simp; omega) ?_)))
    have := to_in l hn rest (done ++ [x]) (i + 1) (by rw [hl]; simp) (by simp; omega)
    rw [List.map_append] at this
    exact this
theorem ev_to (l : List S109) (hn : l.length ≤ 4000000000) : Ev (fun k => tripartitelaw07_To.f k l) (l.map to106) := to_in l hn l [] 0 rfl rfl
theorem from_in (l : List S106) (hn : l.length ≤ 4000000000) : ∀ (rest done : List S106) (i : Int), l = done ++ rest → i = done.length → Ev (fun k => tripartitelaw07_From.l0 k l (done.map to109) i) (l.map to109)
  | [], done, i, hl, ei => by
    refine Ev.succ ?_
    simp only [tripartitelaw07_From.l0]
    refine Ev.neg (by rw [hl]; simp; omega) (Ev.val (by rw [hl]; simp))
  | x :: rest, done, i, hl, ei => by
    have hsz : l.length = done.length + (rest.length + 1) := by rw [hl]; simp
    have hw : wrap64 (i + 1) = i + 1 := wrap_in (by omega) (by omega)
    refine Ev.succ ?_
    simp only [tripartitelaw07_From.l0, hw, rd106_at l i done rest x hl ei]
    refine Ev.pos (by omega) (Ev.pos (by omega) (Ev.bind (Ev.const rfl) (Ev.pos (by simp; omega) ?_)))
    have := from_in l hn rest (done ++ [x]) (i + 1) (by rw [hl]; simp) (by simp; omega)
    rw [List.map_append] at this
    exact this
theorem ev_from (l : List S106) (hn : l.length ≤ 4000000000) : Ev (fun k => tripartitelaw07_From.f k l) (l.map to109) := from_in l hn l [] 0 rfl rfl
def eqP (x y : S109) : Bool := x.f0.toList == y.f0.toList && (x.f1.toList == y.f1.toList && (x.f2.toList == y.f2.toList && (x.f3 == y.f3 && (x.f4.toList == y.f4.toList && (x.f5.toList == y.f5.toList && (x.f6.toList == y.f6.toList && (x.f7.toList == y.f7.toList && x.f8 == y.f8)))))))
theorem eqP_refl (x : S109) : eqP x x = true := by simp [eqP]
def sameP : List S109 → List S109 → Bool
  | [], [] => true
  | x :: a, y :: b => eqP x y && sameP a b
  | _, _ => false
theorem sameP_refl : ∀ l : List S109, sameP l l = true
  | [] => rfl
  | x :: l => by simp [sameP, eqP_refl, sameP_refl l]
theorem sameP_length : ∀ a b : List S109, sameP a b = true → a.length = b.length
  | [], [], _ => rfl
  | x :: a, y :: b, h => by simp [sameP] at h; simp [sameP_length a b h.2]
  | [], y :: b, h => by simp [sameP] at h
  | x :: a, [], h => by simp [sameP] at h
theorem ref_same_in (a b : List S109) (hn : a.length ≤ 4000000000) (hab : a.length = b.length) : ∀ (ra rb da db : List S109) (i : Int), a = da ++ ra → b = db ++ rb → da.length = db.length → i = da.length → Ev (fun k => tripartiteref07_Same.l0 k a b i) (sameP ra rb)
  | [], rb, da, db, i, ha, hb, hd, ei => by
    have : rb = [] := by
      rw [ha, hb] at hab; simp at hab; exact List.length_eq_zero_iff.1 (by omega)
    subst this
    refine Ev.succ ?_
    simp only [tripartiteref07_Same.l0]
    refine Ev.neg (by rw [ha]; simp; omega) (Ev.val rfl)
  | x :: ra, [], da, db, i, ha, hb, hd, ei => by
    rw [ha, hb] at hab; simp at hab; omega
  | x :: ra, y :: rb, da, db, i, ha, hb, hd, ei => by
    have hsz : a.length = da.length + (ra.length + 1) := by rw [ha]; simp
    have hw : wrap64 (i + 1) = i + 1 := wrap_in (by omega) (by omega)
    refine Ev.succ ?_
    simp only [tripartiteref07_Same.l0, hw, rd109_at a i da ra x ha ei, rd109_at b i db rb y hb (by omega)]
    refine Ev.pos (by omega) (Ev.pos (by omega) (Ev.pos (by omega) ?_))
    by_cases he : eqP x y = true
    · refine Ev.neg ?_ ?_
      · unfold eqP at he; simp only [Bool.and_eq_true] at he
        obtain ⟨h0, h1, h2, h3, h4, h5, h6, h7, h8⟩ := he
        simp [h0, h1, h2, h3, h4, h5, h6, h7, h8]
      · rw [show sameP (x :: ra) (y :: rb) = sameP ra rb from by simp [sameP, he]]
        exact ref_same_in a b hn hab ra rb (da ++ [x]) (db ++ [y]) (i + 1) (by rw [ha]; simp) (by rw [hb]; simp) (by simp [hd]) (by simp; omega)
    · refine Ev.pos ?_ (Ev.val ?_)
      · rw [Bool.not_eq_true] at he
        have h2 : (!eqP x y) = true := by rw [he]; rfl
        unfold eqP at h2
        simpa only [Bool.not_and] using h2
      · rw [Bool.not_eq_true] at he; simp [sameP, he]
theorem ev_ref_same (a b : List S109) (hn : a.length ≤ 4000000000) (hm : b.length ≤ 4000000000) : Ev (fun k => tripartiteref07_Same.f k a b) (sameP a b) := by
  unfold tripartiteref07_Same.f
  by_cases h : (a.length : Int) = b.length
  · refine Ev.pos h (ref_same_in a b hn (by omega) a b [] [] 0 rfl rfl rfl rfl)
  · refine Ev.neg h (Ev.val ?_)
    cases hs : sameP a b with
    | false => rfl
    | true => exact absurd (by rw [sameP_length a b hs]) h
def sizesP (x : S109) : Nat := x.f4.size + x.f5.size + x.f6.size + x.f7.size + x.f0.size + x.f1.size + x.f2.size
def sumP (l : List S109) : Nat := (l.map sizesP).sum
def fewP (l : List S109) : Bool := decide (l.length ≤ 60) && decide (sumP l ≤ 3000)
theorem few_many (l : List S109) (hn : l.length ≤ 4000000000000) (h60 : 60 < l.length) : ∀ (rest done : List S109) (x i : Int), l = done ++ rest → i = done.length → Ev (fun k => tripartitelaw07_Few.l0 k l x i) false
  | [], done, x, i, hl, ei => by
    refine Ev.succ ?_
    simp only [tripartitelaw07_Few.l0]
    refine Ev.neg (by rw [hl]; simp; omega) (Ev.neg (by omega) (Ev.val rfl))
  | p :: rest, done, x, i, hl, ei => by
    have hsz : l.length = done.length + (rest.length + 1) := by rw [hl]; simp
    have hw : wrap64 (i + 1) = i + 1 := wrap_in (by omega) (by omega)
    refine Ev.succ ?_
    simp only [tripartitelaw07_Few.l0, hw]
    refine Ev.pos (by omega) (Ev.pos (by omega) ?_)
    exact few_many l hn h60 rest (done ++ [p]) _ (i + 1) (by rw [hl]; simp) (by simp; omega)
theorem few_few (l : List S109) (h60 : l.length ≤ 60) (hs : ∀ x ∈ l, sizesP x ≤ 985162418458624) : ∀ (rest done : List S109) (x i : Int), l = done ++ rest → i = done.length → x = sumP done → Ev (fun k => tripartitelaw07_Few.l0 k l x i) (decide (sumP l ≤ 3000))
  | [], done, x, i, hl, ei, ex => by
    refine Ev.succ ?_
    simp only [tripartitelaw07_Few.l0]
    refine Ev.neg (by rw [hl]; simp; omega) (Ev.pos (by omega) (Ev.val ?_))
    rw [hl, List.append_nil, ex]
    exact decide_eq_decide.2 (by omega)
  | p :: rest, done, x, i, hl, ei, ex => by
    have hsz : l.length = done.length + (rest.length + 1) := by rw [hl]; simp
    have hw : wrap64 (i + 1) = i + 1 := wrap_in (by omega) (by omega)
    have hsum : ∀ d : List S109, (∀ y ∈ d, y ∈ l) → sumP d ≤ d.length * 985162418458624 := by
      intro d
      induction d with
      | nil => intro _; simp [sumP]
      | cons y d ih =>
        intro hd
        have h1 := ih (fun z hz => hd z (by simp [hz]))
        have h2 := hs y (hd y (by simp))
        simp only [sumP, List.map_cons, List.sum_cons, List.length_cons] at h1 ⊢
        omega
    have hd := hsum done (fun y hy => by rw [hl]; simp [hy])
    have hp := hs p (by rw [hl]; simp)
    have hdl : done.length * 985162418458624 ≤ 60 * 985162418458624 := Nat.mul_le_mul_right _ (by omega)
    have hpe : sizesP p = p.f4.size + p.f5.size + p.f6.size + p.f7.size + p.f0.size + p.f1.size + p.f2.size := rfl
    refine Ev.succ ?_
    simp only [tripartitelaw07_Few.l0, hw, rd109_at l i done rest p hl ei]
    refine Ev.pos (by omega) (Ev.pos (by omega) ?_)
    refine few_few l h60 hs rest (done ++ [p]) _ (i + 1) (by rw [hl]; simp) (by simp; omega) ?_
    have e : sumP (done ++ [p]) = sumP done + sizesP p := by simp [sumP]
    rw [e]
    clear hsum hs hdl hw
    subst ex
    generalize sumP done = q at hd ⊢
    have hq : q ≤ 59109745107517440 := Nat.le_trans hd (Nat.le_trans (Nat.mul_le_mul_right _ (show done.length ≤ 60 by omega)) (by decide))
    clear hd
    rw [wrap_in (n := (q : Int) + p.f4.size) (by omega) (by omega)]
    rw [wrap_in (n := (q : Int) + p.f4.size + p.f5.size) (by omega) (by omega)]
    rw [wrap_in (n := (q : Int) + p.f4.size + p.f5.size + p.f6.size) (by omega) (by omega)]
    rw [wrap_in (n := (q : Int) + p.f4.size + p.f5.size + p.f6.size + p.f7.size) (by omega) (by omega)]
    rw [wrap_in (n := (q : Int) + p.f4.size + p.f5.size + p.f6.size + p.f7.size + p.f0.size) (by omega) (by omega)]
    rw [wrap_in (n := (q : Int) + p.f4.size + p.f5.size + p.f6.size + p.f7.size + p.f0.size + p.f1.size) (by omega) (by omega)]
    rw [wrap_in (n := (q : Int) + p.f4.size + p.f5.size + p.f6.size + p.f7.size + p.f0.size + p.f1.size + p.f2.size) (by omega) (by omega)]
    omega
theorem ev_few (l : List S109) (hn : l.length ≤ 4000000000000) (hs : ∀ x ∈ l, sizesP x ≤ 985162418458624) : Ev (fun k => tripartitelaw07_Few.f k l) (fewP l) := by
  unfold tripartitelaw07_Few.f fewP
  by_cases h : l.length ≤ 60
  · rw [decide_eq_true h, Bool.true_and]; exact few_few l h hs l [] 0 0 rfl rfl rfl
  · rw [decide_eq_false h, Bool.false_and]; exact few_many l hn (by omega) l [] 0 0 rfl rfl
theorem few_text {l : List S109} (h : fewP l = true) : l.length ≤ 60 ∧ textSum l ≤ 3000 ∧ ∀ x ∈ l, sizesP x ≤ 3000 := by
  unfold fewP at h
  simp only [Bool.and_eq_true, decide_eq_true_eq] at h
  have key : ∀ d : List S109, textSum d ≤ sumP d ∧ ∀ x ∈ d, sizesP x ≤ sumP d := by
    intro d
    induction d with
    | nil => exact ⟨by simp [textSum, sumP], fun x hx => (by cases hx)⟩
    | cons y d ih =>
      have hpe : sizesP y = y.f4.size + y.f5.size + y.f6.size + y.f7.size + y.f0.size + y.f1.size + y.f2.size := rfl
      refine ⟨?_, fun x hx => ?_⟩
      · have := ih.1
        simp only [textSum, sumP, List.map_cons, List.sum_cons] at this ⊢
        omega
      · rcases List.mem_cons.1 hx with rfl | hx
        · simp only [sumP, List.map_cons, List.sum_cons]; omega
        · have := ih.2 x hx
          simp only [sumP, List.map_cons, List.sum_cons] at this ⊢; omega
  have h1 := key l
  exact ⟨h.1, by omega, fun x hx => by have := h1.2 x hx; omega⟩
end Go.Proofs.Ytfiamddinkokbaa.F
end

section
set_option linter.unusedVariables false
set_option linter.unusedSimpArgs false
namespace Go.Proofs.Ytfiamddinkokbaa.F
open Go.RowKit Go.Proofs.YtfiamddinkokbaaW.PrintWords Go.Proofs.YtfiamddinkokbaaW.PrintLast Go.Proofs.YtfiamddinkokbaaW.PrintMore
set_option linter.unusedVariables false
set_option linter.unusedSimpArgs false
theorem nl_cases : ∀ p : List UInt8, (10 : UInt8) ∉ p ∨ ∃ q r, (10 : UInt8) ∉ q ∧ p = q ++ 10 :: r
  | [] => .inl (by simp)
  | c :: p => by
    by_cases hc : c = 10
    · subst hc; exact .inr ⟨[], p, by simp, rfl⟩
    · rcases nl_cases p with h | ⟨q, r, hq, rfl⟩
      · left; simp [h]; exact fun e => hc e.symm
      · right; refine ⟨c :: q, r, ?_, rfl⟩; simp [hq]; exact fun e => hc e.symm
theorem index_no : ∀ p : List UInt8, (10 : UInt8) ∉ p → Lib.indexByte p 10 = -1
  | [], _ => rfl
  | c :: p, h => by
    have hc : (c == 10) = false := by simpa using fun e : c = 10 => h (by simp [e])
    have ih := index_no p (fun e => h (by simp [e]))
    unfold Lib.indexByte; simp [hc, ih]
theorem index_at : ∀ q r : List UInt8, (10 : UInt8) ∉ q → Lib.indexByte (q ++ 10 :: r) 10 = q.length
  | [], r, _ => by simp [Lib.indexByte]
  | c :: q, r, h => by
    have hc : (c == 10) = false := by simpa using fun e : c = 10 => h (by simp [e])
    have ih := index_at q r (fun e => h (by simp [e]))
    rw [List.cons_append]
    unfold Lib.indexByte
    rw [ih]
    have : ¬ ((q.length : Int) = -1) := by omega
    simp [hc, this]
def endsL (p : List UInt8) : Bool := p.getLast? == some 10
theorem ev_ends (a : ByteArray) (hs : a.size ≤ 4000000000) : tripartiteref01_Ends.f a = some (endsL a.data.toList) := by
  unfold tripartiteref01_Ends.f
  rcases List.eq_nil_or_concat a.data.toList with h | ⟨u, z, h⟩
  · have : a.size = 0 := by rw [← size_data, h]; rfl
    rw [if_neg (by omega), h]; rfl
  · rw [List.concat_eq_append] at h
    have hsz : a.size = u.length + 1 := by rw [← size_data, h]; simp
    have hw : wrap64 ((a.size : Int) - 1) = u.length := by rw [wrap_in (by omega) (by omega)]; omega
    have hb : bt a (u.length : Int) = (z.toNat : Int) := bytes_bt a _ u [] z h rfl
    rw [hw, hb, if_pos (by omega), if_pos (by omega), if_pos (by omega), h]
    unfold endsL
    rw [List.getLast?_concat]
    congr 1
    by_cases hz : z = 10
    · subst hz; rfl
    · have h1 : ¬ (z.toNat : Int) = 10 := fun e => hz (byte_eq (n := 10) (by decide) e)
      rw [show ((z.toNat : Int) == 10) = false from by simpa using h1]
      simpa using hz
end Go.Proofs.Ytfiamddinkokbaa.F
end

section
set_option linter.unusedVariables false
set_option linter.unusedSimpArgs false
namespace Go.Proofs.Ytfiamddinkokbaa.F
open Go.RowKit Go.Proofs.YtfiamddinkokbaaW.PrintWords Go.Proofs.YtfiamddinkokbaaW.PrintLast Go.Proofs.YtfiamddinkokbaaW.PrintMore
set_option linter.unusedVariables false
set_option linter.unusedSimpArgs false
theorem lineless_iff (s : ByteArray) : lineless s = decide ((10 : UInt8) ∈ s.data.toList) := by
  unfold lineless
  rcases nl_cases s.data.toList with h | ⟨q, r, h, e⟩
  · rw [index_no _ h]; simp [h]
  · rw [e, index_at q r h]; simp
theorem toB_toList (l : List UInt8) : (toB l).toList = l := by rw [bytes_toList, data_toB]
theorem extract_data (s : ByteArray) (i j : Nat) : (s.extract i j).data.toList = (s.data.toList.take j).drop i := by
  rw [ByteArray.data_extract, Array.toList_extract]
  simp [List.extract_eq_take_drop, List.drop_take]
theorem extract_drop (s : ByteArray) (i : Nat) : s.extract i s.size = toB (s.data.toList.drop i) := bytes_ext (by rw [extract_data, data_toB, List.take_of_length_le (by rw [size_data]; omega)])
theorem sufx (s : ByteArray) (hs4 : s.size ≤ 4000000000) : strings_HasSuffix.f s ⟨#[10]⟩ = some (endsL s.data.toList) := by
  have h1 : (⟨#[10]⟩ : ByteArray).size = 1 := rfl
  unfold strings_HasSuffix.f stringslite_HasSuffix.f
  rw [h1]
  by_cases hs : 1 ≤ s.size
  · have e1 : wrap64 ((s.size : Int) - ((1 : Nat) : Int)) = (s.size : Int) - 1 := wrap_in (by omega) (by omega)
    rw [if_pos (by omega), e1, if_pos (by omega), if_pos (by omega)]
    rw [show ((s.size : Int) - 1).toNat = s.size - 1 by omega, extract_drop, toB_toList, show (⟨#[10]⟩ : ByteArray).toList = [10] from by rw [bytes_toList]]
    unfold endsL
    rcases List.eq_nil_or_concat s.data.toList with h | ⟨u, z, h⟩
    · exfalso; have := size_data s; rw [h] at this; simp at this; omega
    · rw [List.concat_eq_append] at h
      have hz : s.size - 1 = u.length := by have := size_data s; rw [h] at this; simp at this; omega
      rw [h, hz, List.drop_append_of_le_length (Nat.le_refl _), List.drop_length, List.getLast?_concat]
      simp only [List.nil_append, Option.bind_some]
      by_cases e : z = 10 <;> simp [e]
  · rw [if_neg (by omega)]
    have : s.data.toList = [] := List.length_eq_zero_iff.1 (by rw [size_data]; omega)
    rw [this]; rfl
def markL (c : UInt8) (fl : Bool) (lb : List UInt8) (n : Nat) : List UInt8 := List.replicate n c ++ ((if fl = true then [33] else []) ++ ((if lb.isEmpty = true then [] else 32 :: lb) ++ [10]))
theorem lineB_markL (k : Int) (fl : Bool) (lb : ByteArray) (w : Int) : lineB k fl lb w = toB (markL (UInt8.ofNat k.toNat) fl lb.data.toList w.toNat) := by
  unfold lineB markL; rw [bytes_toList]
end Go.Proofs.Ytfiamddinkokbaa.F
end

section
set_option linter.unusedVariables false
set_option linter.unusedSimpArgs false
namespace Go.Proofs.Ytfiamddinkokbaa.F
open Go.RowKit Go.Proofs.YtfiamddinkokbaaW.PrintWords Go.Proofs.YtfiamddinkokbaaW.PrintLast Go.Proofs.YtfiamddinkokbaaW.PrintMore
set_option linter.unusedVariables false
set_option linter.unusedSimpArgs false
theorem plain_in (a : ByteArray) (hs : a.size ≤ 4000000000) : ∀ (rest done : List UInt8) (i : Int), a.data.toList = done ++ rest → i = done.length → Ev (fun k => tripartiteref07_plain.l0 k a i) (!decide ((10 : UInt8) ∈ rest))
  | [], done, i, hl, ei => by
    have hsz : a.size = done.length := by rw [← size_data, hl]; simp
    refine Ev.succ ?_
    simp only [tripartiteref07_plain.l0]
    exact Ev.neg (by omega) (Ev.val rfl)
  | c :: rest, done, i, hl, ei => by
    have hsz : a.size = done.length + (rest.length + 1) := by rw [← size_data, hl]; simp
    have hw : wrap64 (i + 1) = i + 1 := wrap_in (by omega) (by omega)
    have hb : bt a i = (c.toNat : Int) := bytes_bt a i done rest c hl ei
    refine Ev.succ ?_
    simp only [tripartiteref07_plain.l0, hw, hb]
    refine Ev.pos (by omega) (Ev.pos (by omega) ?_)
    by_cases hc : (c.toNat : Int) = 10
    · refine Ev.pos hc (Ev.val ?_)
      have : c = 10 := byte_eq (n := 10) (by decide) hc
      subst this; simp
    · refine Ev.neg hc ((plain_in a hs rest (done ++ [c]) (i + 1) (by rw [hl]; simp) (by simp; omega)).cast ?_)
      have : (10 : UInt8) ≠ c := fun e => byte_ne (n := 10) (by decide) hc e.symm
      simp [this]
theorem ev_plain (a : ByteArray) (hs : a.size ≤ 4000000000) : Ev (fun k => tripartiteref07_plain.f k a) (!lineless a) := by
  rw [lineless_iff]
  exact plain_in a hs a.data.toList [] 0 rfl rfl
theorem ev_Plain3 (a b c : ByteArray) (ha : a.size ≤ 4000000000) (hb : b.size ≤ 4000000000) (hc : c.size ≤ 4000000000) (h : Bool) (x1 x2 x3 x4 : ByteArray) (y : Bool) :
    Ev (fun k => tripartiteref07_Plain.f k a b c h x1 x2 x3 x4 y) (!lineless a && (!lineless b && !lineless c)) := by
  unfold tripartiteref07_Plain.f
  refine Ev.bind (ev_plain a ha) ?_
  by_cases h1 : (!lineless a) = true
  · refine Ev.pos h1 (Ev.bind (ev_plain b hb) ?_)
    rw [h1]
    by_cases h2 : (!lineless b) = true
    · rw [h2]; exact Ev.pos rfl (Ev.bind (ev_plain c hc) (Ev.val (by simp)))
    · rw [Bool.not_eq_true] at h2; rw [h2]; exact Ev.neg (by simp) (Ev.val rfl)
  · rw [Bool.not_eq_true] at h1; rw [h1]; exact Ev.neg (by simp) (Ev.val rfl)
theorem strOf_one (c : UInt8) : strOfNums [(c.toNat : Int)] = toB [c] := by
  refine bytes_ext ?_
  rw [data_toB]
  simp [strOfNums]
theorem repeat_in (c : UInt8) (n : Nat) (hn : n ≤ 4000000000) : ∀ (d m : Nat), m + d = n → Ev (fun k => tripartiteref08_repeat.l0 k (c.toNat : Int) (n : Int) (toB (List.replicate m c)) (m : Int)) (toB (List.replicate n c))
  | 0, m, h => by
    refine Ev.succ ?_
    simp only [tripartiteref08_repeat.l0]
    exact Ev.neg (by omega) (Ev.val (by rw [show m = n by omega]))
  | d + 1, m, h => by
    have hw : wrap64 ((m : Int) + 1) = ((m + 1 : Nat) : Int) := by rw [wrap_in (by omega) (by omega)]; omega
    refine Ev.succ ?_
    simp only [tripartiteref08_repeat.l0, hw]
    refine Ev.pos (by omega) (Ev.bind (Ev.const rfl) ?_)
    rw [strOf_one]
    refine Ev.pos (by rw [size_toB, size_toB, List.length_replicate, List.length_singleton]; omega) ?_
    have : toB (List.replicate m c) ++ toB [c] = toB (List.replicate (m + 1) c) := bytes_ext (by rw [ByteArray.data_append, Array.toList_append, data_toB, data_toB, data_toB, List.replicate_succ'])
    rw [this]
    exact repeat_in c n hn d (m + 1) (by omega)
theorem ev_ref_repeat (c : UInt8) (w : Int) (w0 : 0 ≤ w) (hn : w ≤ 4000000000) : Ev (fun k => tripartiteref08_repeat.f k (c.toNat : Int) w) (toB (List.replicate w.toNat c)) := by
  have := repeat_in c w.toNat (by omega) w.toNat 0 (by omega)
  rw [show ((w.toNat : Nat) : Int) = w by omega] at this
  exact this
theorem app_toB (x y : List UInt8) : toB x ++ toB y = toB (x ++ y) := bytes_ext (by rw [ByteArray.data_append, Array.toList_append, data_toB, data_toB, data_toB])
theorem ev_ref_line (c : UInt8) (fl : Bool) (lb : ByteArray) (w : Int) (w0 : 0 ≤ w) (w1 : w ≤ 1073741824) (hl : lb.size ≤ 4000000000) : Ev (fun k => tripartiteref08_line.f k (c.toNat : Int) fl lb w) (toB (markL c fl lb.data.toList w.toNat)) := by
  unfold tripartiteref08_line.f
  refine Ev.bind (ev_ref_repeat c w w0 (by omega)) ?_
  have e33 : (⟨#[33]⟩ : ByteArray) = toB [33] := rfl
  have e32 : (⟨#[32]⟩ : ByteArray) = toB [32] := rfl
  have e10 : (⟨#[10]⟩ : ByteArray) = toB [10] := rfl
  have hlb : lb = toB lb.data.toList := (toB_data lb).symm
  have hsz : lb.data.toList.length = lb.size := size_data lb
  have hr : w.toNat ≤ 1073741824 := by omega
  rw [e33, e32, e10]
  cases fl with
  | true =>
    refine Ev.pos rfl (Ev.pos (by rw [size_toB, List.length_replicate]; omega) ?_)
    by_cases he : lb.toList = ([] : List UInt8)
    · refine Ev.pos he (Ev.pos (by rw [app_toB, size_toB, List.length_append, List.length_replicate, List.length_singleton]; omega) (Ev.val ?_))
      rw [app_toB, app_toB]; unfold markL; rw [← bytes_toList, he]; simp
    · refine Ev.neg he (Ev.pos (by rw [app_toB, size_toB, List.length_append, List.length_replicate, List.length_singleton]; omega) (Ev.pos ?_ (Ev.pos ?_ (Ev.val ?_))))
      · rw [app_toB, app_toB, size_toB]; simp only [List.length_append, List.length_replicate, List.length_singleton]; omega
      · rw [hlb, app_toB, app_toB, app_toB, size_toB]; simp only [List.length_append, List.length_replicate, List.length_singleton]; omega
      · have hne : lb.data.toList.isEmpty = false := by
          rw [← bytes_toList]
          cases hx : lb.toList with
          | nil => exact absurd hx he
          | cons a t => rfl
        rw [hlb, app_toB, app_toB, app_toB, app_toB]; unfold markL; rw [data_toB, hne]; simp
  | false =>
    refine Ev.neg (by simp) ?_
    by_cases he : lb.toList = ([] : List UInt8)
    · refine Ev.pos he (Ev.pos (by rw [size_toB, List.length_replicate]; omega) (Ev.val ?_))
      rw [app_toB]; unfold markL; rw [← bytes_toList, he]; simp
    · refine Ev.neg he (Ev.pos (by rw [size_toB, List.length_replicate]; omega) (Ev.pos ?_ (Ev.pos ?_ (Ev.val ?_))))
      · rw [app_toB, size_toB]; simp only [List.length_append, List.length_replicate, List.length_singleton]; omega
      · rw [hlb, app_toB, app_toB, size_toB]; simp only [List.length_append, List.length_replicate, List.length_singleton]; omega
      · have hne : lb.data.toList.isEmpty = false := by
          rw [← bytes_toList]
          cases hx : lb.toList with
          | nil => exact absurd hx he
          | cons a t => rfl
        rw [hlb, app_toB, app_toB, app_toB]; unfold markL; rw [data_toB, hne]; simp
end Go.Proofs.Ytfiamddinkokbaa.F
end

section
set_option linter.unusedVariables false
set_option linter.unusedSimpArgs false
namespace Go.Proofs.Ytfiamddinkokbaa.F
open Go.RowKit Go.Proofs.YtfiamddinkokbaaW.PrintWords Go.Proofs.YtfiamddinkokbaaW.PrintLast Go.Proofs.YtfiamddinkokbaaW.PrintMore
set_option linter.unusedVariables false
set_option linter.unusedSimpArgs false
def confP (x : S109) : Bool := x.f3 && (x.f4.toList.isEmpty && (x.f8 || (x.f6.toList.isEmpty && x.f1.toList.isEmpty)))
def oneP (x : S109) : Bool := isTextP x || confP x
def plainP (x : S109) : Bool := !lineless x.f0 && (!lineless x.f1 && !lineless x.f2)
def rightP : Bool → List S109 → Bool
  | _, [] => true
  | tx, x :: r => oneP x && (plainP x && ((!isTextP x || (!tx && (!x.f4.toList.isEmpty && (r.isEmpty || endsL x.f4.data.toList)))) && rightP (isTextP x) r))
theorem rightP_cons (tx : Bool) (x : S109) (r : List S109) : rightP tx (x :: r) = (oneP x && (plainP x && ((!isTextP x || (!tx && (!x.f4.toList.isEmpty && (r.isEmpty || endsL x.f4.data.toList)))) && rightP (isTextP x) r))) := by rw [rightP]
theorem text_hunk (x : S109) (h : isTextP x = true) : x.f3 = false := by
  unfold isTextP at h
  simp only [Bool.and_eq_true, Bool.not_eq_true'] at h
  exact h.2.2.2.1
theorem one_hunk (x : S109) (h : oneP x = true) : isTextP x = !x.f3 := by
  unfold oneP at h
  cases ht : isTextP x with
  | true => rw [text_hunk x ht]; rfl
  | false =>
    rw [ht] at h
    unfold confP at h
    simp only [Bool.false_or, Bool.and_eq_true] at h
    rw [h.1]; rfl
theorem isText_f (x : S109) : doc_Part_isText.f (to106 x).f0.f0 (to106 x).f0.f1 (to106 x).f0.f2 (to106 x).f1 (to106 x).f2 (to106 x).f3 (to106 x).f4 (to106 x).f5 (to106 x).f6 = some (isTextP x) := by
  unfold doc_Part_isText.f isTextP to106
  congr 1
  simp only [Bool.and_assoc]
theorem isEmpty_iff {l : List UInt8} : l.isEmpty = true ↔ l = [] := List.isEmpty_iff
theorem toList_empty (s : ByteArray) : (s.toList == ([] : List UInt8)) = s.toList.isEmpty := by
  cases s.toList <;> rfl
theorem isConf_f (x : S109) (hs : x.f6.size + x.f1.size ≤ 4000000000) : doc_Part_isConflict.f (to106 x).f0.f0 (to106 x).f0.f1 (to106 x).f0.f2 (to106 x).f1 (to106 x).f2 (to106 x).f3 (to106 x).f4 (to106 x).f5 (to106 x).f6 = some (confP x) := by
  unfold doc_Part_isConflict.f confP to106
  simp only
  cases x.f3 with
  | false => rw [if_neg (by simp)]; rfl
  | true =>
    rw [if_pos rfl]
    by_cases h4 : x.f4.toList = ([] : List UInt8)
    · rw [if_pos h4, h4]
      cases x.f8 with
      | true => rw [if_pos rfl]; rfl
      | false =>
        rw [if_neg (by simp), if_pos (by omega), toList_empty, bytes_toList, ByteArray.data_append, Array.toList_append, bytes_toList, bytes_toList]
        cases x.f6.data.toList <;> rfl
    · rw [if_neg h4]
      have : x.f4.toList.isEmpty = false := by cases hx : x.f4.toList with | nil => exact absurd hx h4 | cons a t => rfl
      rw [this]; rfl
theorem lineless_app (a b : ByteArray) : lineless (a ++ b) = (lineless a || lineless b) := by
  rw [lineless_iff, lineless_iff, lineless_iff, ByteArray.data_append, Array.toList_append]
  by_cases h1 : (10 : UInt8) ∈ a.data.toList <;> by_cases h2 : (10 : UInt8) ∈ b.data.toList <;> simp [h1, h2]
theorem labels_plain (a b c : ByteArray) (hs : a.size + b.size + c.size ≤ 4000000000) : doc_Labels_Plain.f a b c = some (!lineless a && (!lineless b && !lineless c)) := by
  unfold doc_Labels_Plain.f
  rw [if_pos (by omega), if_pos (by rw [ByteArray.size_append]; omega)]
  unfold strings_Contains.f
  rw [if_pos (show (⟨#[10]⟩ : ByteArray).size = 1 from rfl)]
  show some (!lineless (a ++ b ++ c)) = _
  rw [lineless_app, lineless_app]
  cases lineless a <;> cases lineless b <;> cases lineless c <;> rfl
theorem sizes_le {x : S109} {M : Nat} (h : sizesP x ≤ M) : x.f0.size ≤ M ∧ x.f1.size ≤ M ∧ x.f2.size ≤ M ∧ x.f4.size ≤ M ∧ x.f5.size ≤ M ∧ x.f6.size ≤ M ∧ x.f7.size ≤ M ∧ x.f0.size + x.f1.size + x.f2.size ≤ M ∧ x.f6.size + x.f1.size ≤ M := by
  unfold sizesP at h; omega
theorem doc_right_in (l : List S109) (hn : l.length ≤ 4000000000) (hs : ∀ x ∈ l, sizesP x ≤ 1000000000) : ∀ (rest done : List S109) (tx : Bool) (i : Int), l = done ++ rest → i = done.length →
    Ev (fun k => doc_Doc_Right.l0 k (l.map to106) tx (l.map to106) ((l.map to106).length : Int) i) (rightP tx rest)
  | [], done, tx, i, hl, ei => by
    refine Ev.succ ?_
    simp only [doc_Doc_Right.l0]
    exact Ev.neg (by rw [hl]; simp; omega) (Ev.val rfl)
  | x :: rest, done, tx, i, hl, ei => by
    have hsz : l.length = done.length + (rest.length + 1) := by rw [hl]; simp
    have hml : (l.map to106).length = l.length := List.length_map _
    have hw : wrap64 (i + 1) = i + 1 := wrap_in (by omega) (by omega)
    have hw2 : wrap64 (((l.map to106).length : Int) - 1) = (l.length : Int) - 1 := by rw [hml, wrap_in (by omega) (by omega)]
    have hrd : rd_T106 (l.map to106) i = to106 x := rd106_map l i done rest x hl ei
    have hx := sizes_le (hs x (by rw [hl]; simp))
    have next := fun tx' => doc_right_in l hn hs rest (done ++ [x]) tx' (i + 1) (by rw [hl]; simp) (by simp; omega)
    have fin : ∀ b : Bool, Ev (fun k => doc_Doc_Right.j2 k (l.map to106) tx i (l.map to106) ((l.map to106).length : Int) i b (to106 x).f0.f0 (to106 x).f0.f1 (to106 x).f0.f2 (to106 x).f1 (to106 x).f2 (to106 x).f3 (to106 x).f4 (to106 x).f5 (to106 x).f6)
        (!b && ((!isTextP x || (!tx && (!x.f4.toList.isEmpty && (rest.isEmpty || endsL x.f4.data.toList)))) && rightP (isTextP x) rest)) := by
      intro b
      refine Ev.succ ?_
      simp only [doc_Doc_Right.j2, hw, hw2]
      cases b with
      | true => exact Ev.pos rfl (Ev.val rfl)
      | false =>
        refine Ev.neg (by simp) (Ev.bind (Ev.const (isText_f x)) ?_)
        cases ht : isTextP x with
        | false =>
          refine Ev.neg (by simp) (Ev.bind (Ev.const (isText_f x)) ?_)
          rw [ht]
          exact (next false).cast (by simp)
        | true =>
          refine Ev.pos rfl ?_
          cases tx with
          | true => exact Ev.pos rfl (Ev.val rfl)
          | false =>
            refine Ev.neg (by simp) ?_
            have h4 : (to106 x).f2 = x.f4 := rfl
            rw [h4]
            by_cases he : x.f4.toList = ([] : List UInt8)
            · rw [he]; exact Ev.pos rfl (Ev.val rfl)
            · have he2 : x.f4.toList.isEmpty = false := by cases hx : x.f4.toList with | nil => exact absurd hx he | cons a t => rfl
              rw [he2]
              refine Ev.neg he ?_
              cases rest with
              | nil =>
                refine Ev.neg (by simp at hsz; omega) (Ev.bind (Ev.const (isText_f x)) ?_)
                rw [ht]
                exact (next true).cast (by simp)
              | cons y rest =>
                refine Ev.pos (by simp at hsz; omega) (Ev.bind (Ev.const (sufx x.f4 (by omega))) ?_)
                cases hq : endsL x.f4.data.toList with
                | false => exact Ev.neg (by simp) (Ev.val rfl)
                | true =>
                  refine Ev.pos rfl (Ev.bind (Ev.const (isText_f x)) ?_)
                  rw [ht]
                  exact (next true).cast (by simp)
    have mid : ∀ b : Bool, Ev (fun k => doc_Doc_Right.j1 k (l.map to106) tx i (l.map to106) ((l.map to106).length : Int) i b (to106 x).f0.f0 (to106 x).f0.f1 (to106 x).f0.f2 (to106 x).f1 (to106 x).f2 (to106 x).f3 (to106 x).f4 (to106 x).f5 (to106 x).f6)
        (!b && (plainP x && ((!isTextP x || (!tx && (!x.f4.toList.isEmpty && (rest.isEmpty || endsL x.f4.data.toList)))) && rightP (isTextP x) rest))) := by
      intro b
      refine Ev.succ ?_
      simp only [doc_Doc_Right.j1]
      cases b with
      | true => exact Ev.pos rfl ((fin true).cast rfl)
      | false =>
        refine Ev.neg (by simp) (Ev.bind (Ev.const (labels_plain _ _ _ (by show x.f0.size + x.f1.size + x.f2.size ≤ _; omega))) ((fin _).cast ?_))
        rw [Bool.not_not]; rfl
    refine Ev.succ ?_
    simp only [doc_Doc_Right.l0, hrd]
    refine Ev.pos (by omega) (Ev.pos (by omega) (Ev.pos (by omega) (Ev.bind (Ev.const (isText_f x)) ?_)))
    cases ht : isTextP x with
    | true =>
      refine Ev.pos rfl ((mid false).cast ?_)
      rw [rightP, oneP, ht]; simp
    | false =>
      refine Ev.neg (by simp) (Ev.bind (Ev.const (isConf_f x (by omega))) ((mid _).cast ?_))
      rw [rightP, oneP, ht]; simp
theorem ev_doc_right (l : List S109) (hn : l.length ≤ 4000000000) (hs : ∀ x ∈ l, sizesP x ≤ 1000000000) : Ev (fun k => doc_Doc_Right.f k (l.map to106)) (rightP false l) := doc_right_in l hn hs l [] false 0 rfl rfl
theorem ref_one (x : S109) : tripartiteref07_one.f x.f0 x.f1 x.f2 x.f3 x.f4 x.f5 x.f6 x.f7 x.f8 = some (oneP x) := by
  unfold tripartiteref07_one.f oneP
  cases h3 : x.f3 with
  | true =>
    rw [if_pos rfl]
    have ht : isTextP x = false := by cases h : isTextP x with | false => rfl | true => rw [text_hunk x h] at h3; cases h3
    rw [ht, Bool.false_or]
    unfold confP
    rw [h3]
    by_cases h4 : x.f4.toList = ([] : List UInt8)
    · rw [if_pos h4, h4]
      cases h8 : x.f8 with
      | true => rw [if_pos rfl]; rfl
      | false =>
        rw [if_neg (by simp)]
        by_cases h6 : x.f6.toList = ([] : List UInt8)
        · rw [if_pos h6, h6, toList_empty]; rfl
        · rw [if_neg h6]
          have : x.f6.toList.isEmpty = false := by cases hx : x.f6.toList with | nil => exact absurd hx h6 | cons a t => rfl
          rw [this]; rfl
    · rw [if_neg h4]
      have : x.f4.toList.isEmpty = false := by cases hx : x.f4.toList with | nil => exact absurd hx h4 | cons a t => rfl
      rw [this]; rfl
  | false =>
    rw [if_neg (by simp)]
    have hc : confP x = false := by unfold confP; rw [h3]; rfl
    rw [hc, Bool.or_false]
    unfold isTextP
    rw [h3]
theorem ref_right_in (l : List S109) (hn : l.length ≤ 4000000000) (hs : ∀ x ∈ l, sizesP x ≤ 1000000000) : ∀ (rest done : List S109) (i : Int) (tx : Bool), l = done ++ rest → i = done.length →
    (done = [] → tx = false) → (∀ u z, done = u ++ [z] → tx = isTextP z ∧ oneP z = true) → Ev (fun k => tripartiteref07_Right.l0 k l i) (rightP tx rest)
  | [], done, i, tx, hl, ei, h0, h1 => by
    refine Ev.succ ?_
    simp only [tripartiteref07_Right.l0]
    exact Ev.neg (by rw [hl]; simp; omega) (Ev.val rfl)
  | x :: rest, done, i, tx, hl, ei, h0, h1 => by
    have hsz : l.length = done.length + (rest.length + 1) := by rw [hl]; simp
    have hw : wrap64 (i + 1) = i + 1 := wrap_in (by omega) (by omega)
    have hw2 : wrap64 (i - 1) = i - 1 := wrap_in (by omega) (by omega)
    have hrd : rd_T109 l i = x := rd109_at l i done rest x hl ei
    have hx := sizes_le (hs x (by rw [hl]; simp))
    refine Ev.succ ?_
    simp only [tripartiteref07_Right.l0, hrd]
    refine Ev.pos (by omega) (Ev.pos (by omega) (Ev.bind (Ev.const (ref_one x)) ?_))
    cases ho : oneP x with
    | false =>
      refine Ev.neg (by simp) (Ev.succ ?_)
      simp only [tripartiteref07_Right.j1]
      refine Ev.pos (by trivial) (Ev.val ?_)
      rw [rightP_cons tx x, ho]; rfl
    | true =>
      have next : Ev (fun k => tripartiteref07_Right.l0 k l (i + 1)) (rightP (isTextP x) rest) := ref_right_in l hn hs rest (done ++ [x]) (i + 1) (isTextP x) (by rw [hl]; simp) (by simp; omega) (fun h => by simp at h) (fun u z h => by
        obtain ⟨_, h2⟩ := List.append_inj' h rfl
        rw [← (List.cons.inj h2).1]; exact ⟨rfl, ho⟩)
      refine Ev.pos rfl (Ev.bind (ev_Plain3 x.f0 x.f1 x.f2 (by omega) (by omega) (by omega) _ _ _ _ _ _) (Ev.succ ?_))
      simp only [tripartiteref07_Right.j1, hw, hw2]
      cases hp : (!lineless x.f0 && (!lineless x.f1 && !lineless x.f2)) with
      | false =>
        refine Ev.pos rfl (Ev.val ?_)
        rw [rightP_cons tx x, ho]; unfold plainP; rw [hp]; rfl
      | true =>
        refine Ev.neg (by simp) ?_
        have hoh := one_hunk x ho
        cases h3 : x.f3 with
        | true =>
          rw [h3] at hoh
          refine Ev.pos rfl (next.cast ?_)
          rw [rightP_cons tx x, ho]; unfold plainP; rw [hp, hoh]; simp
        | false =>
          rw [h3] at hoh
          refine Ev.neg (by simp) ?_
          by_cases he : x.f4.toList = ([] : List UInt8)
          · refine Ev.pos he (Ev.val ?_)
            rw [rightP_cons tx x, ho]; unfold plainP; rw [hp, hoh, he]; simp
          · have he2 : x.f4.toList.isEmpty = false := by cases hx : x.f4.toList with | nil => exact absurd hx he | cons a t => rfl
            refine Ev.neg he ?_
            have tailE : tx = false → Ev (fun k => if i + 1 < (l.length : Int) then ((tripartiteref01_Ends.f x.f4).bind fun t391 => (if t391 = true then (tripartiteref07_Right.l0 k l (i + 1)) else (some false))) else (tripartiteref07_Right.l0 k l (i + 1))) (rightP tx (x :: rest)) := by
              intro htx
              cases rest with
              | nil =>
                refine Ev.neg (by simp at hsz; omega) (next.cast ?_)
                rw [rightP_cons tx x, ho]; unfold plainP; rw [hp, hoh, he2, htx]; simp
              | cons y rest =>
                refine Ev.pos (by simp at hsz; omega) (Ev.bind (Ev.const (ev_ends x.f4 (by omega))) ?_)
                cases hq : endsL x.f4.data.toList with
                | false =>
                  refine Ev.neg (by simp) (Ev.val ?_)
                  rw [rightP_cons tx x, ho, hoh, he2, htx, hq]; simp
                | true =>
                  refine Ev.pos rfl (next.cast ?_)
                  rw [rightP_cons tx x, ho]; unfold plainP; rw [hp, hoh, he2, htx, hq]; simp
            rcases List.eq_nil_or_concat done with rfl | ⟨u, z, rfl⟩
            · refine Ev.neg (by simp at ei; omega) (tailE (h0 rfl))
            · rw [List.concat_eq_append] at hl ei h1 hsz
              obtain ⟨htx, hoz⟩ := h1 u z rfl
              have hrz : rd_T109 l (i - 1) = z := rd109_at l (i - 1) u (x :: rest) z (by rw [hl]; simp) (by simp at ei; omega)
              simp only [List.length_append, List.length_singleton] at ei hsz
              refine Ev.pos (by omega) (Ev.pos (by omega) (Ev.pos (by omega) ?_))
              rw [hrz]
              have hzh := one_hunk z hoz
              cases hz3 : z.f3 with
              | true =>
                rw [hz3] at hzh
                exact Ev.pos rfl (tailE (by rw [htx, hzh]; rfl))
              | false =>
                rw [hz3] at hzh
                refine Ev.neg (by simp) (Ev.val ?_)
                rw [rightP_cons tx x, ho, hoh, he2, htx, hzh]; simp
theorem ev_ref_right (l : List S109) (hn : l.length ≤ 4000000000) (hs : ∀ x ∈ l, sizesP x ≤ 1000000000) : Ev (fun k => tripartiteref07_Right.f k l) (rightP false l) :=
  ref_right_in l hn hs l [] 0 false rfl rfl (fun _ => rfl) (fun u z h => by have := congrArg List.length h; simp at this)
end Go.Proofs.Ytfiamddinkokbaa.F
end

section
set_option linter.unusedVariables false
set_option linter.unusedSimpArgs false
namespace Go.Proofs.Ytfiamddinkokbaa.F
open Go.RowKit Go.Proofs.YtfiamddinkokbaaW.PrintWords Go.Proofs.YtfiamddinkokbaaW.PrintLast Go.Proofs.YtfiamddinkokbaaW.PrintMore
set_option linter.unusedVariables false
set_option linter.unusedSimpArgs false
def narrowerP (w : Int) (x : S109) : Bool := decide (textRun x.f4 < w) && (decide (textRun x.f5 < w) && (decide (textRun x.f6 < w) && decide (textRun x.f7 < w)))
def fitsP (l : List S109) (w : Int) : Bool := decide (1 ≤ w) && l.all (narrowerP w)
theorem texts_to (x : S109) : texts106 (to106 x) = [x.f4, x.f5, x.f6, x.f7] := rfl
theorem runAll_four (w : Int) (x : S109) : decide (w ≤ runAll [x.f4, x.f5, x.f6, x.f7] 0) = (decide (w ≤ 0) || !narrowerP w x) := by
  have h1 := (textRun_bound x.f4).1
  have h2 := (textRun_bound x.f5).1
  have h3 := (textRun_bound x.f6).1
  have h4 := (textRun_bound x.f7).1
  have e : runAll [x.f4, x.f5, x.f6, x.f7] 0 = mx (mx (mx (mx 0 (textRun x.f4)) (textRun x.f5)) (textRun x.f6)) (textRun x.f7) := rfl
  rw [e]
  unfold narrowerP
  have a1 := mx_cases 0 (textRun x.f4)
  have a2 := mx_cases (mx 0 (textRun x.f4)) (textRun x.f5)
  have a3 := mx_cases (mx (mx 0 (textRun x.f4)) (textRun x.f5)) (textRun x.f6)
  have a4 := mx_cases (mx (mx (mx 0 (textRun x.f4)) (textRun x.f5)) (textRun x.f6)) (textRun x.f7)
  rw [Bool.eq_iff_iff]
  simp only [decide_eq_true_eq, Bool.or_eq_true, Bool.not_eq_true', Bool.and_eq_false_iff, decide_eq_false_iff_not]
  omega
theorem fits_rounds (w : Int) : ∀ (l : List S109), (∀ x ∈ l, sizesP x ≤ 1000000000) → ∃ K, ∀ k, K ≤ k → fitsOk k (l.map to106) = true ∧ (l.map to106).any (wide k w) = l.any (fun x => decide (w ≤ runAll [x.f4, x.f5, x.f6, x.f7] 0))
  | [], _ => ⟨0, fun k _ => ⟨rfl, rfl⟩⟩
  | x :: l, hs => by
    obtain ⟨K, hK⟩ := fits_rounds w l (fun y hy => hs y (by simp [hy]))
    have hx := sizes_le (hs x (by simp))
    obtain ⟨L, hL⟩ := ev_doc_run [x.f4, x.f5, x.f6, x.f7] (by simp) (by intro s hm; simp at hm; rcases hm with rfl | rfl | rfl | rfl <;> omega)
    refine ⟨max K L, fun k hk => ?_⟩
    obtain ⟨h1, h2⟩ := hK k (by omega)
    have h3 : doc_run.f k [x.f4, x.f5, x.f6, x.f7] = some (runAll [x.f4, x.f5, x.f6, x.f7] 0) := hL k (by omega)
    simp only [List.map_cons, List.any_cons]
    refine ⟨?_, ?_⟩
    · unfold fitsOk at h1 ⊢
      rw [List.all_cons, h1, texts_to, h3]; rfl
    · rw [h2]
      unfold wide widest
      rw [texts_to, h3]; rfl
theorem any_all (w : Int) (h1 : 1 ≤ w) : ∀ l : List S109, (!l.any (fun x => decide (w ≤ runAll [x.f4, x.f5, x.f6, x.f7] 0))) = l.all (narrowerP w)
  | [] => rfl
  | x :: l => by
    rw [List.any_cons, List.all_cons, Bool.not_or, any_all w h1 l, runAll_four]
    rw [decide_eq_false (show ¬ w ≤ 0 by omega)]
    simp
theorem ev_doc_fits (l : List S109) (w : Int) (hs : ∀ x ∈ l, sizesP x ≤ 1000000000) : Ev (fun k => doc_Doc_Fits.f k (l.map to106) w) (fitsP l w) := by
  obtain ⟨K, hK⟩ := fits_rounds w l hs
  refine ⟨K, fun k hk => ?_⟩
  obtain ⟨h1, h2⟩ := hK k hk
  show fitsF k (l.map to106) w = _
  unfold fitsF fitsP
  by_cases hw : 1 ≤ w
  · rw [if_pos hw, if_pos h1, h2, any_all w hw, decide_eq_true hw, Bool.true_and]
  · rw [if_neg hw, decide_eq_false hw, Bool.false_and]
theorem ref_fits_in (l : List S109) (w : Int) (hn : l.length ≤ 4000000000) (hs : ∀ x ∈ l, sizesP x ≤ 1000000000) : ∀ (rest done : List S109) (i : Int), l = done ++ rest → i = done.length →
    Ev (fun k => tripartiteref07_Fits.l0 k l w i) (rest.all (narrowerP w))
  | [], done, i, hl, ei => by
    refine Ev.succ ?_
    simp only [tripartiteref07_Fits.l0]
    exact Ev.neg (by rw [hl]; simp; omega) (Ev.val rfl)
  | x :: rest, done, i, hl, ei => by
    have hsz : l.length = done.length + (rest.length + 1) := by rw [hl]; simp
    have hw : wrap64 (i + 1) = i + 1 := wrap_in (by omega) (by omega)
    have hrd : rd_T109 l i = x := rd109_at l i done rest x hl ei
    have hx := sizes_le (hs x (by rw [hl]; simp))
    have next := ref_fits_in l w hn hs rest (done ++ [x]) (i + 1) (by rw [hl]; simp) (by simp; omega)
    refine Ev.succ ?_
    simp only [tripartiteref07_Fits.l0, hrd, hw]
    rw [List.all_cons]
    unfold narrowerP
    refine Ev.pos (by omega) (Ev.pos (by omega) (Ev.bind (ev_ref07_run x.f4 (by omega)) ?_))
    by_cases h1 : textRun x.f4 < w
    · refine Ev.neg (by omega) (Ev.bind (ev_ref07_run x.f5 (by omega)) ?_)
      rw [decide_eq_true h1]
      by_cases h2 : textRun x.f5 < w
      · refine Ev.neg (by omega) (Ev.bind (ev_ref07_run x.f6 (by omega)) ?_)
        rw [decide_eq_true h2]
        by_cases h3 : textRun x.f6 < w
        · refine Ev.neg (by omega) (Ev.bind (ev_ref07_run x.f7 (by omega)) ?_)
          rw [decide_eq_true h3]
          by_cases h4 : textRun x.f7 < w
          · rw [decide_eq_true h4]; exact Ev.neg (by omega) (next.cast (by simp; rfl))
          · rw [decide_eq_false h4]; exact Ev.pos (by omega) (Ev.val rfl)
        · rw [decide_eq_false h3]; exact Ev.pos (by omega) (Ev.val rfl)
      · rw [decide_eq_false h2]; exact Ev.pos (by omega) (Ev.val rfl)
    · rw [decide_eq_false h1]; exact Ev.pos (by omega) (Ev.val rfl)
theorem ev_ref_fits (l : List S109) (w : Int) (hn : l.length ≤ 4000000000) (hs : ∀ x ∈ l, sizesP x ≤ 1000000000) : Ev (fun k => tripartiteref07_Fits.f k l w) (fitsP l w) := by
  unfold tripartiteref07_Fits.f fitsP
  by_cases hw : 1 ≤ w
  · rw [decide_eq_true hw, Bool.true_and]
    exact Ev.neg (by omega) (ref_fits_in l w hn hs l [] 0 rfl rfl)
  · rw [decide_eq_false hw, Bool.false_and]
    exact Ev.pos (by omega) (Ev.val rfl)
def printP (l : List S109) (w : Int) : ByteArray × Int :=
  if 1 ≤ w ∧ w ≤ 1073741824 then (if rightP false l = true then (if fitsP l w = true then (toB (printL w (l.map to106)), 0) else (⟨#[]⟩, 4)) else (⟨#[]⟩, 11)) else (⟨#[]⟩, 4)
theorem printP_in {l : List S109} {w : Int} (h1 : 1 ≤ w) (h2 : w ≤ 1073741824) : printP l w = (if rightP false l = true then (if fitsP l w = true then (toB (printL w (l.map to106)), 0) else (⟨#[]⟩, 4)) else (⟨#[]⟩, 11)) := if_pos ⟨h1, h2⟩
theorem printP_out {l : List S109} {w : Int} (h : ¬ (1 ≤ w ∧ w ≤ 1073741824)) : printP l w = (⟨#[]⟩, 4) := if_neg h
theorem okPart_to (x : S109) (h : sizesP x ≤ 1000000000) : okPart (to106 x) = true := by
  have hx := sizes_le h
  unfold okPart
  have e1 : (to106 x).f3 = x.f5 := rfl
  have e2 : (to106 x).f4 = x.f6 := rfl
  have e3 : (to106 x).f5 = x.f7 := rfl
  rw [e1, e2, e3, sufx x.f5 (by omega), sufx x.f6 (by omega), sufx x.f7 (by omega)]
  simp only [Bool.and_eq_true, decide_eq_true_eq]
  exact ⟨by show x.f0.size ≤ _; omega, by show x.f1.size ≤ _; omega, by show x.f2.size ≤ _; omega, by show x.f4.size ≤ _; omega, by omega, by omega, by omega, rfl, rfl, rfl⟩
theorem ev_mark_print (l : List S109) (w : Int) (hn : l.length ≤ 2000) (hs : ∀ x ∈ l, sizesP x ≤ 1000000000) : Ev (fun k => mark_Print.f k (l.map to106) w) (printP l w) := by
  show Ev (fun k => printF k (l.map to106) w) (printP l w)
  unfold printF mark_wide.f
  by_cases h1 : w ≥ 1
  · rw [if_pos h1]
    by_cases h2 : w ≤ 1073741824
    · rw [decide_eq_true h2, printP_in h1 h2]
      refine Ev.bind (Ev.const rfl) (Ev.pos rfl (Ev.bind (ev_doc_right l (by omega) hs) ?_))
      have hok : (l.map to106).all okPart = true := by
        refine List.all_eq_true.2 (fun y hy => ?_)
        obtain ⟨x, hx, rfl⟩ := List.mem_map.1 hy
        exact okPart_to x (hs x hx)
      by_cases h3 : rightP false l = true
      · refine Ev.cast (Ev.pos h3 (Ev.bind (ev_doc_fits l w hs) ?_)) (if_pos h3).symm
        by_cases h4 : fitsP l w = true
        · exact Ev.cast (Ev.pos h4 (Ev.pos ⟨hok, by rw [List.length_map]; exact hn, by omega, h2⟩ (Ev.val rfl))) (if_pos h4).symm
        · exact Ev.cast (Ev.neg h4 (Ev.val rfl)) (if_neg h4).symm
      · exact Ev.cast (Ev.neg h3 (Ev.val rfl)) (if_neg h3).symm
    · rw [decide_eq_false h2, printP_out (fun h => h2 h.2)]
      exact Ev.bind (Ev.const rfl) (Ev.neg (by simp) (Ev.val rfl))
  · rw [if_neg h1, printP_out (fun h => h1 h.1)]
    exact Ev.bind (Ev.const rfl) (Ev.neg (by simp) (Ev.val rfl))
theorem sufQ_eq (s : ByteArray) (h : s.size ≤ 4000000000) : sufQ s = endsL s.data.toList := by unfold sufQ; rw [sufx s h]; rfl
theorem ref_side (s : ByteArray) (h : s.size ≤ 4000000000) : tripartiteref08_side.f s = some (toB (sideL s (endsL s.data.toList)), lacksB s (endsL s.data.toList)) := by
  unfold tripartiteref08_side.f sideL lacksB
  by_cases he : s.toList = ([] : List UInt8)
  · rw [if_pos he, he]; simp [toB_data]
  · have he2 : s.toList.isEmpty = false := by cases hx : s.toList with | nil => exact absurd hx he | cons a t => rfl
    rw [if_neg he, he2, ev_ends s h]
    cases hq : endsL s.data.toList with
    | true => simp [toB_data]
    | false =>
      simp only [Option.bind_some, Bool.false_eq_true, if_false]
      rw [if_pos (by omega), show (⟨#[10]⟩ : ByteArray) = toB [10] from rfl]
      have : s ++ toB [10] = toB (s.data.toList ++ [10]) := by rw [← app_toB, toB_data]
      rw [this]; rfl
theorem lineL_eq (c : UInt8) (fl : Bool) (lb : ByteArray) (w : Int) : lineL (c.toNat : Int) fl lb w = markL c fl lb.data.toList w.toNat := by
  unfold lineL; rw [lineB_markL, data_toB, Int.toNat_natCast]; simp
theorem ev_line_k (c : UInt8) (k0 : Int) (hk : k0 = (c.toNat : Int)) (fl : Bool) (lb : ByteArray) (w : Int) (w0 : 0 ≤ w) (w1 : w ≤ 1073741824) (hl : lb.size ≤ 4000000000) : Ev (fun k => tripartiteref08_line.f k k0 fl lb w) (toB (lineL k0 fl lb w)) := by
  subst hk; rw [lineL_eq]; exact ev_ref_line c fl lb w w0 w1 hl
theorem ref_print_in (l : List S109) (w : Int) (hn : l.length ≤ 2000) (hs : ∀ x ∈ l, sizesP x ≤ 1000000000) (w0 : 1 ≤ w) (w1 : w ≤ 1073741824) : ∀ (rest done : List S109) (i : Int), l = done ++ rest → i = done.length →
    Ev (fun k => tripartiteref08_Print.l0 k l w (toB (printL w (done.map to106))) i) (toB (printL w (l.map to106)), 0)
  | [], done, i, hl, ei => by
    refine Ev.succ ?_
    simp only [tripartiteref08_Print.l0]
    exact Ev.neg (by rw [hl]; simp; omega) (Ev.val (by rw [hl, List.append_nil]))
  | x :: rest, done, i, hl, ei => by
    have hsz : l.length = done.length + (rest.length + 1) := by rw [hl]; simp
    have hw : wrap64 (i + 1) = i + 1 := wrap_in (by omega) (by omega)
    have hrd : rd_T109 l i = x := rd109_at l i done rest x hl ei
    have hx := sizes_le (hs x (by rw [hl]; simp))
    obtain ⟨z0, z1, z2, z4, z5, z6, z7, _, _⟩ := hx
    have next := ref_print_in l w hn hs w0 w1 rest (done ++ [x]) (i + 1) (by rw [hl]; simp) (by simp; omega)
    have hstep : printL w ((done ++ [x]).map to106) = printL w (done.map to106) ++ partL w (to106 x) := by simp [printL]
    rw [hstep] at next
    have hcur : (printL w (done.map to106)).length ≤ 90000000000000 := by
      have h1 := printL_length w w1 (done.map to106) (fun y hy => by
        obtain ⟨x', hx', rfl⟩ := List.mem_map.1 hy
        exact okPart_to x' (hs x' (by rw [hl]; simp [hx'])))
      rw [List.length_map] at h1
      have : done.length * 45000000000 ≤ 90000000000000 := by omega
      omega
    generalize printL w (done.map to106) = cur at next hcur ⊢
    have hc : (toB cur).size ≤ 90000000000000 := by rw [size_toB]; exact hcur
    refine Ev.succ ?_
    simp only [tripartiteref08_Print.l0, hrd, hw]
    refine Ev.pos (by omega) (Ev.pos (by omega) (Ev.pos (by omega) ?_))
    have h4 : x.f4 = toB x.f4.data.toList := (toB_data _).symm
    have g4 : (to106 x).f2.data.toList = x.f4.data.toList := rfl
    cases h3 : x.f3 with
    | false =>
      refine Ev.neg (by simp) ?_
      have hp : partL w (to106 x) = x.f4.data.toList := by
        unfold partL
        rw [show (to106 x).f1 = x.f3 from rfl, h3, g4]; simp
      rw [hp] at next
      rw [h4, app_toB]; exact next
    | true =>
      have q5 := sufQ_eq x.f5 (by omega)
      have q6 := sufQ_eq x.f6 (by omega)
      have q7 := sufQ_eq x.f7 (by omega)
      have hp : partL w (to106 x) = x.f4.data.toList ++ (lineL 60 false x.f0 w ++ sideL x.f5 (endsL x.f5.data.toList) ++ (if x.f8 = true then lineL 124 (lacksB x.f5 (endsL x.f5.data.toList)) x.f1 w ++ sideL x.f6 (endsL x.f6.data.toList) else []) ++
          lineL 61 (if x.f8 = true then lacksB x.f6 (endsL x.f6.data.toList) else lacksB x.f5 (endsL x.f5.data.toList)) ⟨#[]⟩ w ++ sideL x.f7 (endsL x.f7.data.toList) ++ lineL 62 (lacksB x.f7 (endsL x.f7.data.toList)) x.f2 w) := by
        unfold partL
        rw [show (to106 x).f1 = x.f3 from rfl, h3, g4, if_pos rfl]
        unfold hunkL
        rw [show (to106 x).f3 = x.f5 from rfl, show (to106 x).f4 = x.f6 from rfl, show (to106 x).f5 = x.f7 from rfl, q5, q6, q7]; rfl
      rw [hp] at next
      have zE : (⟨#[]⟩ : ByteArray).size ≤ 4000000000 := by decide
      have b5 := sideL_length x.f5 (endsL x.f5.data.toList)
      have b6 := sideL_length x.f6 (endsL x.f6.data.toList)
      have b7 := sideL_length x.f7 (endsL x.f7.data.toList)
      have c0 := lineL_length 60 false x.f0 w w1
      have c1 := lineL_length 124 (lacksB x.f5 (endsL x.f5.data.toList)) x.f1 w w1
      have c2 := fun fl => lineL_length 61 fl ⟨#[]⟩ w w1
      have c3 := lineL_length 62 (lacksB x.f7 (endsL x.f7.data.toList)) x.f2 w w1
      have cE : (⟨#[]⟩ : ByteArray).size = 0 := rfl
      refine Ev.pos rfl (Ev.bind (Ev.const (ref_side x.f5 (by omega))) (Ev.bind (Ev.const (ref_side x.f6 (by omega))) (Ev.bind (Ev.const (ref_side x.f7 (by omega))) (Ev.bind (ev_line_k 60 60 rfl false x.f0 w (by omega) w1 (by omega)) ?_))))
      simp only []
      generalize lineL 60 false x.f0 w = L0 at c0 next ⊢
      generalize sideL x.f5 (endsL x.f5.data.toList) = S5 at b5 next ⊢
      have eS : ∀ l : List UInt8, (toB l).size = l.length := size_toB
      refine Ev.pos (by simp only [ByteArray.size_append, eS] at hc ⊢; omega) (Ev.pos (by simp only [ByteArray.size_append, eS] at hc ⊢; omega) ?_)
      cases h8 : x.f8 with
      | true =>
        refine Ev.pos rfl (Ev.bind (ev_line_k 124 124 rfl _ x.f1 w (by omega) w1 (by omega)) ?_)
        simp only [h8, if_true] at next
        generalize lineL 124 (lacksB x.f5 (endsL x.f5.data.toList)) x.f1 w = L1 at c1 next ⊢
        generalize sideL x.f6 (endsL x.f6.data.toList) = S6 at b6 next ⊢
        refine Ev.pos (by simp only [ByteArray.size_append, eS] at hc ⊢; omega) (Ev.pos (by simp only [ByteArray.size_append, eS] at hc ⊢; omega) (Ev.bind (ev_line_k 61 61 rfl _ ⟨#[]⟩ w (by omega) w1 zE) ?_))
        have c2' := c2 (lacksB x.f6 (endsL x.f6.data.toList))
        generalize lineL 61 (lacksB x.f6 (endsL x.f6.data.toList)) ⟨#[]⟩ w = L2 at c2' next ⊢
        generalize hS7 : sideL x.f7 (endsL x.f7.data.toList) = S7 at b7 next ⊢
        refine Ev.pos (by simp only [ByteArray.size_append, eS] at hc ⊢; omega) (Ev.pos (by simp only [ByteArray.size_append, eS] at hc ⊢; omega) (Ev.bind (ev_line_k 62 62 rfl _ x.f2 w (by omega) w1 (by omega)) ?_))
        generalize lineL 62 (lacksB x.f7 (endsL x.f7.data.toList)) x.f2 w = L3 at c3 next ⊢
        refine Ev.pos (by simp only [ByteArray.size_append, eS] at hc ⊢; omega) ?_
        have e : toB cur ++ x.f4 ++ toB L0 ++ toB S5 ++ toB L1 ++ toB S6 ++ toB L2 ++ toB S7 ++ toB L3 = toB (cur ++ (x.f4.data.toList ++ (L0 ++ S5 ++ (L1 ++ S6) ++ L2 ++ S7 ++ L3))) := by
          rw [h4]; simp only [app_toB, data_toB, List.append_assoc]
        rw [e]; exact next
      | false =>
        refine Ev.neg (by simp) (Ev.bind (ev_line_k 61 61 rfl _ ⟨#[]⟩ w (by omega) w1 zE) ?_)
        simp only [h8, Bool.false_eq_true, if_false] at next
        have c2' := c2 (lacksB x.f5 (endsL x.f5.data.toList))
        generalize lineL 61 (lacksB x.f5 (endsL x.f5.data.toList)) ⟨#[]⟩ w = L2 at c2' next ⊢
        generalize hS7 : sideL x.f7 (endsL x.f7.data.toList) = S7 at b7 next ⊢
        refine Ev.pos (by simp only [ByteArray.size_append, eS] at hc ⊢; omega) (Ev.pos (by simp only [ByteArray.size_append, eS] at hc ⊢; omega) (Ev.bind (ev_line_k 62 62 rfl _ x.f2 w (by omega) w1 (by omega)) ?_))
        generalize lineL 62 (lacksB x.f7 (endsL x.f7.data.toList)) x.f2 w = L3 at c3 next ⊢
        refine Ev.pos (by simp only [ByteArray.size_append, eS] at hc ⊢; omega) ?_
        have e : toB cur ++ x.f4 ++ toB L0 ++ toB S5 ++ toB L2 ++ toB S7 ++ toB L3 = toB (cur ++ (x.f4.data.toList ++ (L0 ++ S5 ++ [] ++ L2 ++ S7 ++ L3))) := by
          rw [h4]; simp only [app_toB, data_toB, List.append_assoc, List.append_nil, List.nil_append]
        rw [e]; exact next
theorem ev_ref_print (l : List S109) (w : Int) (hn : l.length ≤ 2000) (hs : ∀ x ∈ l, sizesP x ≤ 1000000000) : Ev (fun k => tripartiteref08_Print.f k l w) (printP l w) := by
  unfold tripartiteref08_Print.f tripartiteref08_wide.f
  by_cases h1 : w ≥ 1
  · rw [if_pos h1]
    by_cases h2 : w ≤ 1073741824
    · rw [decide_eq_true h2, printP_in h1 h2]
      refine Ev.bind (Ev.const rfl) (Ev.pos rfl (Ev.bind (ev_ref_right l (by omega) hs) ?_))
      by_cases h3 : rightP false l = true
      · refine Ev.cast (Ev.pos h3 (Ev.bind (ev_ref_fits l w (by omega) hs) ?_)) (if_pos h3).symm
        by_cases h4 : fitsP l w = true
        · exact Ev.cast (Ev.pos h4 (ref_print_in l w hn hs h1 h2 l [] 0 rfl rfl)) (if_pos h4).symm
        · exact Ev.cast (Ev.neg h4 (Ev.val rfl)) (if_neg h4).symm
      · exact Ev.cast (Ev.neg h3 (Ev.val rfl)) (if_neg h3).symm
    · rw [decide_eq_false h2, printP_out (fun h => h2 h.2)]
      exact Ev.bind (Ev.const rfl) (Ev.neg (by simp) (Ev.val rfl))
  · rw [if_neg h1, printP_out (fun h => h1 h.1)]
    exact Ev.bind (Ev.const rfl) (Ev.neg (by simp) (Ev.val rfl))
end Go.Proofs.Ytfiamddinkokbaa.F
end

section
set_option linter.unusedVariables false
set_option linter.unusedSimpArgs false
namespace Go.Proofs.Ytfiamddinkokbaa.F
open Go.RowKit Go.Proofs.YtfiamddinkokbaaW.PrintWords Go.Proofs.YtfiamddinkokbaaW.PrintLast Go.Proofs.YtfiamddinkokbaaW.PrintMore
set_option linter.unusedVariables false
set_option linter.unusedSimpArgs false
theorem ev_told08 : Ev (fun k => tripartitelaw08_told.f k) true := Ev.of_mono (fun k => tripartitelaw08_told.mono k) (k := 60) (by decide +kernel)
def narrowI (w : Int) : Int := if w > 300 ∧ w ≤ 1073741824 then Int.tmod w 300 + 1 else w
theorem ev_narrow (w : Int) : tripartitelaw08_narrow.f w = some (narrowI w) := by
  unfold tripartitelaw08_narrow.f narrowI
  by_cases h1 : w > 300
  · rw [if_pos h1]
    by_cases h2 : w ≤ 1073741824
    · have e : Int.tmod w 300 = w % 300 := Int.tmod_eq_emod_of_nonneg (by omega)
      rw [if_pos h2, if_pos ⟨h1, h2⟩, e, wrap_in (by omega) (by omega)]
    · rw [if_neg h2, if_neg (fun h => h2 h.2)]
  · rw [if_neg h1, if_neg (fun h => h1 h.1)]
end Go.Proofs.Ytfiamddinkokbaa.F
namespace Go.Proofs.Ytfiamddinkokbaa
end Go.Proofs.Ytfiamddinkokbaa
end

section
set_option linter.unusedVariables false
set_option linter.unusedSimpArgs false
namespace Go.Proofs.Ytfiamddinkokbaa.F
open Go.RowKit Go.Proofs.YtfiamddinkokbaaW.PrintWords Go.Proofs.YtfiamddinkokbaaW.PrintLast Go.Proofs.YtfiamddinkokbaaW.PrintMore
set_option linter.unusedVariables false
set_option linter.unusedSimpArgs false
theorem small_sizes {x : S109} (h : small109 x) : sizesP x ≤ 985162418458624 := by
  unfold small109 at h; unfold sizesP; omega
end Go.Proofs.Ytfiamddinkokbaa.F
namespace Go.Proofs.Ytfiamddinkokbaa
open Go.Proofs.Ytfiamddinkokbaa.F
end Go.Proofs.Ytfiamddinkokbaa
end

section
set_option linter.unusedVariables false
set_option linter.unusedSimpArgs false
namespace Go.Proofs.Ytfiamddinkokbaa.F
open Go.RowKit Go.Proofs.YtfiamddinkokbaaW.PrintWords Go.Proofs.YtfiamddinkokbaaW.PrintLast Go.Proofs.YtfiamddinkokbaaW.PrintMore
set_option linter.unusedVariables false
set_option linter.unusedSimpArgs false
theorem pureMarkPrints (l0 : List S109) (a1 : Int) (w0 : ∀ x ∈ l0, small109 x) (y0 : l0.length ≤ 1954687338182) (h1 : (Lit.int .i64 a1).wf = true) : ∃ k, tripartitelaw08_MarkPrints.f k l0 a1 = some true := by
  refine Ev.get ?_
  unfold tripartitelaw08_MarkPrints.f
  refine Ev.bind (ev_few l0 (by omega) (fun x hx => small_sizes (w0 x hx))) ?_
  by_cases h0 : fewP l0 = true
  · obtain ⟨n0, _, s0⟩ := few_text h0
    refine Ev.pos h0 (Ev.bind (Ev.const (ev_narrow a1)) ?_)
    generalize narrowI a1 = w
    refine Ev.bind (ev_to l0 (by omega)) (Ev.bind (ev_mark_print l0 w (by omega) (fun x hx => by have := s0 x hx; omega)) (Ev.bind (ev_ref_print l0 w (by omega) (fun x hx => by have := s0 x hx; omega)) (Ev.bind ev_told08 (Ev.pos rfl (Ev.pos rfl (Ev.pos rfl ?_))))))
    refine Ev.bind (ev_from _ (by simp; omega)) ?_
    rw [map_to109]
    exact Ev.bind (ev_ref_same _ _ (by omega) (by omega)) (Ev.val (sameP_refl _))
  · exact Ev.neg h0 (Ev.bind ev_told08 (Ev.val rfl))
end Go.Proofs.Ytfiamddinkokbaa.F
namespace Go.Proofs.Ytfiamddinkokbaa
open Go.Proofs.Ytfiamddinkokbaa.F
theorem Pure.MarkPrints (l0 : List S109) (a1 : Int) (w0 : ∀ x ∈ l0, small109 x) (y0 : l0.length ≤ 1954687338182) (h1 : (Lit.int .i64 a1).wf = true) : ∃ k, tripartitelaw08_MarkPrints.f k l0 a1 = some true :=
  pureMarkPrints l0 a1 w0 y0 h1
end Go.Proofs.Ytfiamddinkokbaa
end
