/- Texts joined into one file (wip/tools/pack.py): Open, Pure, Pure01, PureLines, PureLinesJoins -/
import Derived.Test.YtfiamddinkokbaaLJ1
import Derived.SliceStrings
import Derived.SizedLaws
import Derived.Deep.Slices
import Derived.Deep.Fields
import Derived.ChangeSame
import Derived.Lib.SmallJoins
section
set_option linter.unusedVariables false
set_option linter.unusedSimpArgs false
namespace Go.Proofs.Ytfiamddinkokbaa.F
open Go.RowKit Go.Proofs.YtfiamddinkokbaaW.PrintWords Go.ChangeShapes Go.WideShapes Go.Deep Go.Joins
set_option linter.unusedVariables false
set_option linter.unusedSimpArgs false
section
variable {H : Type} {enc : TypeId × Value → H} {P : Program} {W : World} {base : Nat} {spare : Nat → Bool} {held : Bool}
theorem weights_string {l : List (DataW H)} {e : TypeId} {bs : List UInt8} (h : DataW.lit (.string bs) ∈ l) : bs.length ∈ DataW.weightsAll P e l := by
  induction l with
  | nil => cases h
  | cons d r ih =>
    simp only [DataW.weightsAll, List.mem_append]
    rcases List.mem_cons.1 h with rfl | h
    · left; simp [DataW.weights]
    · right; exact ih h
theorem open_strs {t e : TypeId} {A : Option Addr} {n c : Nat} {d : DataW H} {p : List MemPlace} {ts : List TypeId} {ds : List (DataW H)} {j : Nat}
    (hsz : (DataW.weightsEach P ts ds).all (· ≤ reachBytes) = true) (htj : ts[j]? = some t) (hdj : ds[j]? = some d) (ht : P.underlying t = some (.slice e)) (he : P.underlying e = some .string) (hc : P.cellsOf e = 1) (hb : P.bytesOf e = 16)
    (h : DataW.Trod enc P W base spare held t (.slice A n c) d p) :
    ∃ l : List ByteArray, n = l.length ∧ Kd.C Kd.string W A l.length l ∧ l.length ≤ c ∧ l.length ≤ 8796093021952 ∧ ∀ s ∈ l, s.size ≤ 140737488351232 := by
  obtain ⟨fuel, hf⟩ := h
  rcases open_strings ht he hc hf with ⟨hcs, _⟩ | ⟨a, l, c', ss, hcs, _, hl, hm, hlen, hx, hcell, hwz⟩
  · simp [Value.cells] at hcs
    obtain ⟨rfl, rfl, rfl⟩ := hcs
    exact ⟨[], rfl, Kd.C_nil _ _, by simp, by simp, by simp⟩
  · simp [Value.cells] at hcs
    obtain ⟨rfl, rfl, rfl⟩ := hcs
    obtain ⟨hx1, hx2⟩ := Prod.mk.inj hx
    subst hx1
    have hle : n ≤ ss.length := by rw [hlen]; split <;> omega
    have hlt : (ss.take n).length = n := by rw [List.length_take]; omega
    have z := sized_slice hsz htj hdj ht
    have hstr : ∀ (l : List ByteArray), (strs (H := H) l).length = l.length := fun l => by simp [strs]
    rw [hb, hstr, hstr, ← List.length_append, List.take_append_drop] at z
    have hr : reachBytes = 140737488351232 := rfl
    rw [hr] at z
    refine ⟨ss.take n, hlt.symm, ⟨rfl, ?_, fun _ => ⟨a, rfl, ?_⟩⟩, by omega, by omega, ?_⟩
    · have : maxLen = 9223372036854775807 := rfl
      omega
    · intro j x hj
      refine ⟨[.string x], rfl, rfl, ?_⟩
      intro i u hi
      have hi0 : i = 0 := by
        match i, hi with
        | 0, _ => rfl
      subst hi0
      have hu : Value.string x = u := by simpa using hi
      subst hu
      have hjl : j < n := by
        have := (List.getElem?_eq_some_iff.1 hj).1
        omega
      have hj2 : ss[j]? = some x := by rw [List.getElem?_take] at hj; simpa [hjl] using hj
      have := hcell j (by omega)
      rw [List.getD_eq_getElem?_getD, hj2] at this
      have hz : (Kd.string).sz = 1 := rfl
      rw [hz, Nat.mul_one, Nat.add_zero]
      exact this
    · intro s hs
      have hm : DataW.lit (.string s.data.toList) ∈ strs (H := H) (ss.take n) := by
        simp only [strs]; exact List.mem_map.2 ⟨s, hs, rfl⟩
      have hmem : s.data.toList.length ∈ DataW.weights P t (DataW.slice (strs (H := H) (ss.take n)) (strs (ss.drop n))) := by
        simp only [DataW.weights, ht]
        exact List.mem_cons_of_mem _ (List.mem_append_left _ (weights_string hm))
      have := List.all_eq_true.1 hsz _ (DataW.weights_mem_each htj hdj _ hmem)
      rw [Array.length_toList] at this
      simpa [hr] using this
end
section
variable {H : Type} {enc : TypeId × Value → H} {P : Program} {w : World} {base : Nat} {spare : Nat → Bool} {held : Bool}
end
section
variable {H : Type} {enc : TypeId × Value → H} {W : World} {base : Nat} {spare : Nat → Bool} {held : Bool}
end
end Go.Proofs.Ytfiamddinkokbaa.F
end

section
set_option linter.unusedVariables false
set_option linter.unusedSimpArgs false
namespace Go.Proofs.Ytfiamddinkokbaa
open Go.RowKit Go.Proofs.YtfiamddinkokbaaW.PrintWords
set_option linter.unusedVariables false
def Ev {α : Type} (F : Nat → Option α) (v : α) : Prop := ∃ K, ∀ k, K ≤ k → F k = some v
namespace Ev
variable {α β : Type} {F G : Nat → Option α} {H : Nat → α → Option β} {v a : α} {b : β}
theorem get (h : Ev F v) : ∃ k, F k = some v := let ⟨K, hK⟩ := h; ⟨K, hK K (Nat.le_refl K)⟩
theorem val {x : α} (h : x = v) : Ev (fun _ => some x) v := ⟨0, fun _ _ => by rw [h]⟩
theorem const {o : Option α} (h : o = some v) : Ev (fun _ => o) v := ⟨0, fun _ _ => h⟩
theorem succ (h : Ev (fun k => F (k + 1)) v) : Ev F v := let ⟨K, hK⟩ := h; ⟨K + 1, fun k hk => by
  obtain ⟨j, rfl⟩ : ∃ j, k = j + 1 := ⟨k - 1, by omega⟩
  exact hK j (by omega)⟩
theorem pos {c : Prop} [Decidable c] (hc : c) (h : Ev F v) : Ev (fun k => if c then F k else G k) v := by simpa only [if_pos hc] using h
theorem neg {c : Prop} [Decidable c] (hc : ¬ c) (h : Ev G v) : Ev (fun k => if c then F k else G k) v := by simpa only [if_neg hc] using h
theorem bind {F : Nat → Option α} (h : Ev F a) (h' : Ev (fun k => H k a) b) : Ev (fun k => (F k).bind (H k)) b := by
  obtain ⟨K, hK⟩ := h
  obtain ⟨L, hL⟩ := h'
  refine ⟨max K L, fun k hk => ?_⟩
  show (F k).bind (H k) = some b
  rw [hK k (by omega)]
  exact hL k (by omega)
theorem cast (h : Ev F a) (e : a = v) : Ev F v := e ▸ h
end Ev
theorem wrap_in {n : Int} (h0 : -9223372036854775808 ≤ n) (h1 : n ≤ 9223372036854775807) : wrap64 n = n := by unfold wrap64; omega
theorem size_data (s : ByteArray) : s.data.toList.length = s.size := Array.length_toList
theorem bytes_toList (s : ByteArray) : s.toList = s.data.toList := by
  exact ByteArray.toList_eq s
theorem bt_at (s : ByteArray) (i : Int) (xs ys : List UInt8) (c : UInt8) (h : s.data.toList = xs ++ c :: ys) (hi : i = xs.length) : bt s i = (c.toNat : Int) := by
  have hs : xs.length < s.size := by rw [← size_data, h]; simp
  subst hi
  unfold bt
  rw [dif_pos (by simpa using hs)]
  have : s.data.toList[xs.length]? = some c := by rw [h]; simp
  have h2 := getElem?_byte s xs.length hs
  rw [this] at h2
  have h3 : s[xs.length] = c := (Option.some.inj h2).symm
  simp only [Int.toNat_natCast, h3]
theorem extract_at (s : ByteArray) (i j : Int) (xs ys zs : List UInt8) (h : s.data.toList = xs ++ ys ++ zs) (hi : i = xs.length) (hj : j = xs.length + ys.length) : s.extract i.toNat j.toNat = toB ys := by
  subst hi hj
  have hd : (s.extract (xs.length : Int).toNat ((xs.length : Int) + ys.length).toNat).data.toList = ys := by
    rw [ByteArray.data_extract, Array.toList_extract, h]
    simp [Int.toNat_natCast]
    rw [show ((xs.length : Int) + ys.length).toNat = xs.length + ys.length from by omega]
    simp
  rw [← toB_data (s.extract _ _), hd]
theorem size_toB (l : List UInt8) : (toB l).size = l.length := by rw [← size_data, data_toB]
theorem bytes_ext {a b : ByteArray} (h : a.data.toList = b.data.toList) : a = b := by rw [← toB_data a, h, toB_data]
theorem rdOf_at {α : Type} (d : α) (l : List α) (i : Int) (xs ys : List α) (c : α) (h : l = xs ++ c :: ys) (hi : i = xs.length) : rdOf d l i = c := by
  subst h hi
  unfold rdOf
  simp [Int.toNat_natCast, List.getD_eq_getElem?_getD]
end Go.Proofs.Ytfiamddinkokbaa
end

section
set_option linter.unusedVariables false
set_option linter.unusedSimpArgs false
namespace Go.Proofs.Ytfiamddinkokbaa.F
open Go.RowKit Go.Proofs.YtfiamddinkokbaaW.PrintWords Go.Proofs.YtfiamddinkokbaaW.PrintLast Go.Proofs.YtfiamddinkokbaaW.PrintMore
set_option linter.unusedVariables false
set_option linter.unusedSimpArgs false
theorem takeLine_line : ∀ (p : List UInt8) (rest : List UInt8), (10 : UInt8) ∉ p → takeLine (p ++ 10 :: rest) = p ++ [10] ∧ dropLine (p ++ 10 :: rest) = rest
  | [], rest, _ => by simp [takeLine, dropLine]
  | c :: p, rest, h => by
    have hc : c ≠ 10 := fun e => h (by simp [e])
    have ih := takeLine_line p rest (fun e => h (by simp [e]))
    simp [takeLine, dropLine, hc, ih.1, ih.2]
theorem splitL_line (p : List UInt8) (rest : List UInt8) (h : (10 : UInt8) ∉ p) : splitL (p ++ 10 :: rest) = (p ++ [10]) :: splitL rest := by
  rw [splitL_next _ (by simp), (takeLine_line p rest h).1, (takeLine_line p rest h).2]
theorem splitL_last : ∀ (p : List UInt8), p ≠ [] → (10 : UInt8) ∉ p → splitL p = [p]
  | [], hp, _ => absurd rfl hp
  | c :: p, _, h => by
    have hc : c ≠ 10 := fun e => h (by simp [e])
    by_cases hp : p = []
    · subst hp; simp [splitL, hc]
    · have ih := splitL_last p hp (fun e => h (by simp [e]))
      simp [splitL, hc, ih]
theorem byte_ne {c : UInt8} {n : Nat} (hn : n < 256) (h : ¬ (c.toNat : Int) = n) : c ≠ (UInt8.ofNat n) := fun e => h (by rw [e]; simp [UInt8.toNat_ofNat]; omega)
theorem byte_eq {c : UInt8} {n : Nat} (hn : n < 256) (h : (c.toNat : Int) = n) : c = (UInt8.ofNat n) := UInt8.toNat.inj (by simp; omega)
theorem split_l0 (a : ByteArray) (hs : a.size ≤ 4000000000) : ∀ (rest done p : List UInt8) (x3 : List ByteArray) (s i : Int), a.data.toList = done ++ p ++ rest → (10 : UInt8) ∉ p → x3.length ≤ done.length → (rest = [] → p = []) →
    s = done.length → i = done.length + p.length → Ev (fun k => tripartiteref01_Split.l0 k a x3 s i) (x3 ++ (splitL (p ++ rest)).map toB)
  | [], done, p, x3, s, i, ha, hp, hx, hr, es, ei => by
    obtain rfl := hr rfl
    have hsz : a.size = done.length := by rw [← size_data, ha]; simp
    refine Ev.succ ?_
    simp only [tripartiteref01_Split.l0]
    refine Ev.neg (by simp at ei; omega) (Ev.val (by simp [splitL]))
  | c :: rest, done, p, x3, s, i, ha, hp, hx, hr, es, ei => by
    have hsz : a.size = done.length + p.length + (rest.length + 1) := by rw [← size_data, ha]; simp; omega
    have hw : wrap64 (i + 1) = i + 1 := wrap_in (by omega) (by omega)
    have hb : bt a i = (c.toNat : Int) := bt_at a i (done ++ p) rest c (by rw [ha]) (by simp; omega)
    have hex : a.extract (s : Int).toNat (i + 1 : Int).toNat = toB (p ++ [c]) := extract_at a s (i + 1) done (p ++ [c]) rest (by rw [ha]; simp) es (by simp; omega)
    refine Ev.succ ?_
    simp only [tripartiteref01_Split.l0, hw, hb, hex]
    refine Ev.pos (by omega) (Ev.pos (by omega) ?_)
    by_cases hc : (c.toNat : Int) = 10
    · have hc' : c = 10 := byte_eq (n := 10) (by decide) hc
      subst hc'
      refine Ev.pos hc (Ev.pos (by omega) (Ev.pos (by omega) (Ev.pos (by omega) (Ev.pos (by omega) ?_))))
      refine (split_l0 a hs rest (done ++ p ++ [10]) [] _ _ _ (by rw [ha]; simp) (by simp) (by simp; omega) (fun _ => rfl) (by simp; omega) (by simp; omega)).cast ?_
      rw [splitL_line p rest hp]; simp
    · have hc' : c ≠ 10 := byte_ne (n := 10) (by decide) hc
      refine Ev.neg hc ?_
      have hp' : (10 : UInt8) ∉ p ++ [c] := by simp [hp]; exact fun e => hc' e.symm
      cases rest with
      | nil =>
        refine Ev.pos (by simp at hsz; omega) (Ev.pos (by omega) (Ev.pos (by omega) (Ev.pos (by omega) (Ev.pos (by omega) ?_))))
        refine (split_l0 a hs [] (done ++ p ++ [c]) [] _ _ _ (by rw [ha]; simp) (by simp) (by simp; omega) (fun _ => rfl) (by simp; omega) (by simp; omega)).cast ?_
        rw [splitL_last (p ++ [c]) (by simp) hp']; simp [splitL]
      | cons d rest =>
        refine Ev.neg (by simp at hsz; omega) ?_
        refine (split_l0 a hs (d :: rest) done (p ++ [c]) _ _ _ (by rw [ha]; simp) hp' hx (fun h => by cases h) es (by simp; omega)).cast ?_
        simp
theorem ref_split (a : ByteArray) (hs : a.size ≤ 4000000000) : Ev (fun k => tripartiteref01_Split.f k a) (splitB a) :=
  (split_l0 a hs a.data.toList [] [] [] 0 0 (by simp) (by simp) (by simp) (fun _ => rfl) rfl rfl).cast (by simp [splitB])
theorem isEmpty_toList (s : ByteArray) : s.toList = [] ↔ s.data.toList = [] := by rw [bytes_toList]
theorem lines_split (a : ByteArray) (hs : a.size ≤ 4000000000) : lines_Split.f a = some (splitB a) := by unfold lines_Split.f; rw [if_pos hs]
end Go.Proofs.Ytfiamddinkokbaa.F
end

section
set_option linter.unusedVariables false
set_option linter.unusedSimpArgs false
namespace Go.Proofs.Ytfiamddinkokbaa.F
open Go.RowKit Go.Proofs.YtfiamddinkokbaaW.PrintWords Go.Proofs.YtfiamddinkokbaaW.PrintLast Go.Proofs.YtfiamddinkokbaaW.PrintMore
set_option linter.unusedVariables false
set_option linter.unusedSimpArgs false
theorem nl_cases : ∀ p : List UInt8, (10 : UInt8) ∉ p ∨ ∃ q r, (10 : UInt8) ∉ q ∧ p = q ++ 10 :: r
  | [] => .inl (by simp)
  | c :: p => by
    by_cases hc : c = 10
    · subst hc; exact .inr ⟨[], p, by simp, rfl⟩
    · rcases nl_cases p with h | ⟨q, r, hq, rfl⟩
      · left; simp [h]; exact fun e => hc e.symm
      · right; refine ⟨c :: q, r, ?_, rfl⟩; simp [hq]; exact fun e => hc e.symm
theorem index_no : ∀ p : List UInt8, (10 : UInt8) ∉ p → Lib.indexByte p 10 = -1
  | [], _ => rfl
  | c :: p, h => by
    have hc : (c == 10) = false := by simpa using fun e : c = 10 => h (by simp [e])
    have ih := index_no p (fun e => h (by simp [e]))
    unfold Lib.indexByte; simp [hc, ih]
theorem index_at : ∀ q r : List UInt8, (10 : UInt8) ∉ q → Lib.indexByte (q ++ 10 :: r) 10 = q.length
  | [], r, _ => by simp [Lib.indexByte]
  | c :: q, r, h => by
    have hc : (c == 10) = false := by simpa using fun e : c = 10 => h (by simp [e])
    have ih := index_at q r (fun e => h (by simp [e]))
    rw [List.cons_append]
    unfold Lib.indexByte
    rw [ih]
    have : ¬ ((q.length : Int) = -1) := by omega
    simp [hc, this]
def oneL (p : List UInt8) : Bool := (splitL p).length == 1
def endsL (p : List UInt8) : Bool := p.getLast? == some 10
theorem oneL_no (p : List UInt8) (h : (10 : UInt8) ∉ p) : oneL p = !p.isEmpty := by
  unfold oneL
  cases p with
  | nil => rfl
  | cons c p => rw [splitL_last (c :: p) (by simp) h]; rfl
theorem oneL_at (q r : List UInt8) (h : (10 : UInt8) ∉ q) : oneL (q ++ 10 :: r) = r.isEmpty := by
  unfold oneL
  rw [splitL_line q r h]
  cases r with
  | nil => rfl
  | cons c r =>
    have : splitL (c :: r) ≠ [] := fun e => by simp [splitL_nil_iff] at e
    cases hs : splitL (c :: r) with
    | nil => exact absurd hs this
    | cons a b => simp [hs]
theorem endsL_no (p : List UInt8) (h : (10 : UInt8) ∉ p) : endsL p = false := by
  unfold endsL
  rcases List.eq_nil_or_concat p with rfl | ⟨u, z, rfl⟩
  · rfl
  · rw [List.concat_eq_append] at h ⊢
    rw [List.getLast?_concat]
    have : z ≠ 10 := fun e => h (by simp [e])
    simpa using this
theorem endsL_at (q : List UInt8) : endsL (q ++ [10]) = true := by unfold endsL; rw [List.getLast?_concat]; rfl
def wholeP : List ByteArray → Bool
  | [] => true
  | [x] => oneL x.data.toList
  | x :: y :: r => oneL x.data.toList && (endsL x.data.toList && wholeP (y :: r))
theorem wholeP_cons (x : ByteArray) (r : List ByteArray) : wholeP (x :: r) = (oneL x.data.toList && ((r.isEmpty || endsL x.data.toList) && wholeP r)) := by
  cases r with
  | nil => simp [wholeP]
  | cons y r => simp [wholeP]
theorem ev_ends (a : ByteArray) (hs : a.size ≤ 4000000000) : tripartiteref01_Ends.f a = some (endsL a.data.toList) := by
  unfold tripartiteref01_Ends.f
  rcases List.eq_nil_or_concat a.data.toList with h | ⟨u, z, h⟩
  · have : a.size = 0 := by rw [← size_data, h]; rfl
    rw [if_neg (by omega), h]; rfl
  · rw [List.concat_eq_append] at h
    have hsz : a.size = u.length + 1 := by rw [← size_data, h]; simp
    have hw : wrap64 ((a.size : Int) - 1) = u.length := by rw [wrap_in (by omega) (by omega)]; omega
    have hb : bt a (u.length : Int) = (z.toNat : Int) := bt_at a _ u [] z h rfl
    rw [hw, hb, if_pos (by omega), if_pos (by omega), if_pos (by omega), h]
    unfold endsL
    rw [List.getLast?_concat]
    congr 1
    by_cases hz : z = 10
    · subst hz; rfl
    · have h1 : ¬ (z.toNat : Int) = 10 := fun e => hz (byte_eq (n := 10) (by decide) e)
      rw [show ((z.toNat : Int) == 10) = false from by simpa using h1]
      simpa using hz
theorem ref_whole_in (l : List ByteArray) (hn : l.length ≤ 4000000000) (hs : ∀ s ∈ l, s.size ≤ 4000000000) : ∀ (rest done : List ByteArray) (i : Int), l = done ++ rest → i = done.length → Ev (fun k => tripartiteref01_Whole.l0 k l i) (wholeP rest)
  | [], done, i, hl, ei => by
    refine Ev.succ ?_
    simp only [tripartiteref01_Whole.l0]
    refine Ev.neg (by rw [hl]; simp; omega) (Ev.val rfl)
  | x :: rest, done, i, hl, ei => by
    have hsz : l.length = done.length + (rest.length + 1) := by rw [hl]; simp
    have hw : wrap64 (i + 1) = i + 1 := wrap_in (by omega) (by omega)
    have hb : rdOf ByteArray.empty l i = x := rdOf_at _ l i done rest x hl ei
    have hx := hs x (by rw [hl]; simp)
    have again := ref_whole_in l hn hs rest (done ++ [x]) (i + 1) (by rw [hl]; simp) (by simp; omega)
    rw [wholeP_cons]
    refine Ev.succ ?_
    simp only [tripartiteref01_Whole.l0, hw, hb]
    refine Ev.pos (by omega) (Ev.pos (by omega) (Ev.bind (ref_split x hx) ?_))
    have hlen : (splitB x).length = (splitL x.data.toList).length := by unfold splitB; rw [List.length_map]
    by_cases h1 : oneL x.data.toList = true
    · rw [h1, Bool.true_and]
      have h1' : (splitL x.data.toList).length = 1 := by simpa [oneL] using h1
      refine Ev.pos (by rw [hlen, h1']; rfl) ?_
      cases rest with
      | nil =>
        refine Ev.neg (by simp at hsz; omega) ?_
        exact again.cast (by rfl)
      | cons y r =>
        refine Ev.pos (by simp at hsz; omega) (Ev.bind (Ev.const (ev_ends x hx)) ?_)
        cases he : endsL x.data.toList with
        | true => exact Ev.pos rfl (again.cast (by simp))
        | false => exact Ev.neg (by decide) (Ev.val (by simp))
    · have h1' : ¬ (splitL x.data.toList).length = 1 := by simpa [oneL] using h1
      rw [Bool.not_eq_true] at h1
      rw [h1, Bool.false_and]
      exact Ev.neg (by rw [hlen]; omega) (Ev.val rfl)
theorem ev_ref_whole (l : List ByteArray) (hn : l.length ≤ 4000000000) (hs : ∀ s ∈ l, s.size ≤ 4000000000) : Ev (fun k => tripartiteref01_Whole.f k l) (wholeP l) := ref_whole_in l hn hs l [] 0 rfl rfl
theorem lines_index (a : ByteArray) : strings_Index.f a (⟨#[10]⟩ : ByteArray) = some (Lib.indexByte a.data.toList 10) := rfl
theorem lines_whole_in (l : List ByteArray) (hn : l.length ≤ 4000000000) (hs : ∀ s ∈ l, s.size ≤ 4000000000) : ∀ (rest done : List ByteArray) (i : Int), l = done ++ rest → i = done.length → Ev (fun k => lines_Whole.l0 k l l (l.length : Int) i) (wholeP rest)
  | [], done, i, hl, ei => by
    refine Ev.succ ?_
    simp only [lines_Whole.l0]
    refine Ev.neg (by rw [hl]; simp; omega) (Ev.val rfl)
  | x :: rest, done, i, hl, ei => by
    have hsz : l.length = done.length + (rest.length + 1) := by rw [hl]; simp
    have hw : wrap64 (i + 1) = i + 1 := wrap_in (by omega) (by omega)
    have hwl : wrap64 ((l.length : Int) - 1) = (l.length : Int) - 1 := wrap_in (by omega) (by omega)
    have hb : rdOf ByteArray.empty l i = x := rdOf_at _ l i done rest x hl ei
    have hx := hs x (by rw [hl]; simp)
    have hwx : wrap64 ((x.size : Int) - 1) = (x.size : Int) - 1 := wrap_in (by omega) (by omega)
    have again := lines_whole_in l hn hs rest (done ++ [x]) (i + 1) (by rw [hl]; simp) (by simp; omega)
    rw [wholeP_cons]
    refine Ev.succ ?_
    simp only [lines_Whole.l0, hw, hwl, hwx, hb]
    refine Ev.pos (by omega) (Ev.pos (by omega) (Ev.pos (by omega) (Ev.bind (Ev.const (lines_index x)) ?_)))
    have hd := size_data x
    rcases nl_cases x.data.toList with hno | ⟨q, r, hq, hx2⟩
    · rw [index_no _ hno, oneL_no _ hno, endsL_no _ hno]
      by_cases he : x.toList = []
      · refine Ev.pos he (Ev.val ?_)
        rw [(isEmpty_toList x).1 he]; rfl
      · have he2 : x.data.toList.isEmpty = false := by
          cases h : x.data.toList with
          | nil => exact absurd ((isEmpty_toList x).2 h) he
          | cons a b => rfl
        rw [he2]
        refine Ev.neg he (Ev.neg (by decide) (Ev.pos (by decide) ?_))
        cases rest with
        | nil => exact Ev.neg (by simp at hsz; omega) (again.cast (by rfl))
        | cons y r => exact Ev.pos (by simp at hsz; omega) (Ev.val (by simp))
    · have hlen : x.size = q.length + (r.length + 1) := by rw [← hd, hx2]; simp
      have he : ¬ x.toList = [] := fun e => by
        have := (isEmpty_toList x).1 e
        rw [hx2] at this; simp at this
      rw [hx2, index_at q r hq, oneL_at q r hq]
      refine Ev.neg he (Ev.pos (by omega) ?_)
      cases r with
      | nil =>
        refine Ev.pos (by simp at hlen; omega) (Ev.neg (by omega) ?_)
        exact again.cast (by rw [endsL_at]; simp)
      | cons c r => exact Ev.neg (by simp at hlen; omega) (Ev.val (by simp))
theorem ev_lines_whole (l : List ByteArray) (hn : l.length ≤ 4000000000) (hs : ∀ s ∈ l, s.size ≤ 4000000000) : Ev (fun k => lines_Whole.f k l) (wholeP l) := lines_whole_in l hn hs l [] 0 rfl rfl
theorem toList_inj {a b : ByteArray} (h : a.toList = b.toList) : a = b := bytes_ext (by rw [← bytes_toList, ← bytes_toList, h])
theorem ref_same01_in (a b : List ByteArray) (hn : a.length ≤ 4000000000) (hab : a.length = b.length) : ∀ (ra rb da db : List ByteArray) (i : Int), a = da ++ ra → b = db ++ rb → da.length = db.length → i = da.length → Ev (fun k => tripartiteref01_Same.l0 k a b i) (decide (ra = rb))
  | [], rb, da, db, i, ha, hb, hd, ei => by
    have : rb = [] := by
      rw [ha, hb] at hab; simp at hab; exact List.length_eq_zero_iff.1 (by omega)
    subst this
    refine Ev.succ ?_
    simp only [tripartiteref01_Same.l0]
    refine Ev.neg (by rw [ha]; simp; omega) (Ev.val (by simp))
  | x :: ra, [], da, db, i, ha, hb, hd, ei => by
    rw [ha, hb] at hab; simp at hab; omega
  | x :: ra, y :: rb, da, db, i, ha, hb, hd, ei => by
    have hsz : a.length = da.length + (ra.length + 1) := by rw [ha]; simp
    have hw : wrap64 (i + 1) = i + 1 := wrap_in (by omega) (by omega)
    refine Ev.succ ?_
    simp only [tripartiteref01_Same.l0, hw, rdOf_at _ a i da ra x ha ei, rdOf_at _ b i db rb y hb (by omega)]
    refine Ev.pos (by omega) (Ev.pos (by omega) (Ev.pos (by omega) ?_))
    by_cases he : x.toList = y.toList
    · refine Ev.pos he ?_
      have hxy := toList_inj he
      subst hxy
      refine (ref_same01_in a b hn hab ra rb (da ++ [x]) (db ++ [x]) (i + 1) (by rw [ha]; simp) (by rw [hb]; simp) (by simp [hd]) (by simp; omega)).cast ?_
      exact decide_eq_decide.2 ⟨fun h => by rw [h], fun h => (List.cons.inj h).2⟩
    · refine Ev.neg he (Ev.val ?_)
      exact (decide_eq_false (fun h => he (by rw [(List.cons.inj h).1]))).symm
theorem ev_ref_same01 (a b : List ByteArray) (hn : a.length ≤ 4000000000) (hm : b.length ≤ 4000000000) : Ev (fun k => tripartiteref01_Same.f k a b) (decide (a = b)) := by
  unfold tripartiteref01_Same.f
  by_cases h : (a.length : Int) = b.length
  · exact Ev.pos h (ref_same01_in a b hn (by omega) a b [] [] 0 rfl rfl rfl rfl)
  · exact Ev.neg h (Ev.val (decide_eq_false (fun e => h (by rw [e]))).symm)
def catB (l : List ByteArray) : ByteArray := toB (l.flatMap fun s => s.data.toList)
theorem joinB_empty (l : List ByteArray) : joinB l ⟨#[]⟩ = catB l := by
  unfold joinB catB
  congr 1
  cases l with
  | nil => rfl
  | cons x r =>
    rw [List.map_cons, Lib.join_cons]
    simp [Lib.joinTail, List.flatMap]
    rfl
theorem ref_join_in (l : List ByteArray) (hn : l.length ≤ 4000000000) (hs : (catB l).size ≤ 4000000000) : ∀ (rest done : List ByteArray) (i : Int), l = done ++ rest → i = done.length → Ev (fun k => tripartiteref01_Join.l0 k l (catB done) i) (catB l)
  | [], done, i, hl, ei => by
    refine Ev.succ ?_
    simp only [tripartiteref01_Join.l0]
    refine Ev.neg (by rw [hl]; simp; omega) (Ev.val (by rw [hl]; simp))
  | x :: rest, done, i, hl, ei => by
    have hsz : l.length = done.length + (rest.length + 1) := by rw [hl]; simp
    have hw : wrap64 (i + 1) = i + 1 := wrap_in (by omega) (by omega)
    have hb : rdOf ByteArray.empty l i = x := rdOf_at _ l i done rest x hl ei
    have hc : catB done ++ x = catB (done ++ [x]) := bytes_ext (by simp [catB])
    have hsz2 : (catB l).size = (catB done).size + x.size + (rest.flatMap fun s => s.data.toList).length := by
      rw [← size_data, ← size_data, ← size_data, hl]; simp [catB]; omega
    refine Ev.succ ?_
    simp only [tripartiteref01_Join.l0, hw, hb, hc]
    refine Ev.pos (by omega) (Ev.pos (by omega) (Ev.pos (by omega) ?_))
    exact ref_join_in l hn hs rest (done ++ [x]) (i + 1) (by rw [hl]; simp) (by simp; omega)
theorem ev_ref_join (l : List ByteArray) (hn : l.length ≤ 4000000000) (hs : (catB l).size ≤ 4000000000) : Ev (fun k => tripartiteref01_Join.f k l) (catB l) := ref_join_in l hn hs l [] 0 rfl rfl
theorem lines_join (l : List ByteArray) (hn : l.length ≤ 4000000000) (hs : (catB l).size ≤ 4000000000) : lines_Join.f l = some (catB l) := by
  unfold lines_Join.f strings_Join.f
  rw [joinB_empty, if_pos ⟨by omega, by omega⟩]; rfl
theorem split_cat : ∀ l : List ByteArray, wholeP l = true → splitB (catB l) = l
  | [], _ => rfl
  | x :: r, h => by
    rw [wholeP_cons] at h
    simp only [Bool.and_eq_true] at h
    obtain ⟨h1, h2, h3⟩ := h
    have ih := split_cat r h3
    have hc : (catB (x :: r)).data.toList = x.data.toList ++ (catB r).data.toList := by simp [catB]
    unfold splitB at ih ⊢
    rw [hc]
    rcases nl_cases x.data.toList with hno | ⟨q, s, hq, hx⟩
    · rw [endsL_no _ hno] at h2
      have hr : r = [] := by cases r with
        | nil => rfl
        | cons a b => simp at h2
      subst hr
      rw [oneL_no _ hno] at h1
      have hne : x.data.toList ≠ [] := fun e => by rw [e] at h1; simp at h1
      have : (catB []).data.toList = [] := rfl
      rw [this, List.append_nil, splitL_last _ hne hno, List.map_singleton, toB_data]
    · rw [hx, oneL_at q s hq] at h1
      have hs : s = [] := by simpa using h1
      subst hs
      have : q ++ [10] ++ (catB r).data.toList = q ++ 10 :: (catB r).data.toList := by simp
      rw [hx, this, splitL_line q _ hq, List.map_cons, ih, ← hx, toB_data]
def fewL (l : List ByteArray) : Bool := l.all (fun s => decide (s.size ≤ 400)) && decide (l.length ≤ 200)
theorem few01_in (l : List ByteArray) (hn : l.length ≤ 4000000000000000) : ∀ (rest done : List ByteArray) (i : Int), l = done ++ rest → i = done.length → (∀ s ∈ done, s.size ≤ 400) → Ev (fun k => tripartitelaw01_few.l0 k l i) (fewL l)
  | [], done, i, hl, ei, hd => by
    refine Ev.succ ?_
    simp only [tripartitelaw01_few.l0]
    refine Ev.neg (by rw [hl]; simp; omega) (Ev.val ?_)
    rw [List.append_nil] at hl
    subst hl
    unfold fewL
    rw [List.all_eq_true.2 (fun s hs => decide_eq_true (hd s hs)), Bool.true_and]
    exact decide_eq_decide.2 (by omega)
  | x :: rest, done, i, hl, ei, hd => by
    have hsz : l.length = done.length + (rest.length + 1) := by rw [hl]; simp
    have hw : wrap64 (i + 1) = i + 1 := wrap_in (by omega) (by omega)
    have hb : rdOf ByteArray.empty l i = x := rdOf_at _ l i done rest x hl ei
    refine Ev.succ ?_
    simp only [tripartitelaw01_few.l0, hw, hb]
    refine Ev.pos (by omega) (Ev.pos (by omega) ?_)
    by_cases hx : (x.size : Int) > 400
    · refine Ev.pos hx (Ev.val ?_)
      have : l.all (fun s => decide (s.size ≤ 400)) = false := by
        cases ha : l.all (fun s => decide (s.size ≤ 400)) with
        | false => rfl
        | true =>
          have := List.all_eq_true.1 ha x (by rw [hl]; simp)
          simp at this; omega
      unfold fewL; rw [this]; rfl
    · refine Ev.neg hx ?_
      refine few01_in l hn rest (done ++ [x]) (i + 1) (by rw [hl]; simp) (by simp; omega) (fun s hs => ?_)
      rcases List.mem_append.1 hs with hs | hs
      · exact hd s hs
      · rw [List.mem_singleton.1 hs]; omega
theorem ev_few01 (l : List ByteArray) (hn : l.length ≤ 4000000000000000) : Ev (fun k => tripartitelaw01_few.f k l) (fewL l) := few01_in l hn l [] 0 rfl rfl (fun s hs => (by cases hs))
theorem fewL_true {l : List ByteArray} (h : fewL l = true) : l.length ≤ 200 ∧ (∀ s ∈ l, s.size ≤ 400) ∧ (catB l).size ≤ 80000 := by
  unfold fewL at h
  simp only [Bool.and_eq_true, decide_eq_true_eq] at h
  have h1 : ∀ s ∈ l, s.size ≤ 400 := fun s hs => by have := List.all_eq_true.1 h.1 s hs; simpa using this
  have key : ∀ d : List ByteArray, (∀ s ∈ d, s.size ≤ 400) → (d.flatMap fun s => s.data.toList).length ≤ d.length * 400 := by
    intro d
    induction d with
    | nil => intro _; simp
    | cons y d ih =>
      intro hd
      have h1 := ih (fun z hz => hd z (by simp [hz]))
      have h2 := hd y (by simp)
      have h3 := size_data y
      simp only [List.flatMap_cons, List.length_append, List.length_cons]
      omega
  refine ⟨h.2, h1, ?_⟩
  have := key l h1
  have e : (catB l).size = (l.flatMap fun s => s.data.toList).length := size_toB _
  rw [e]
  exact Nat.le_trans this (Nat.mul_le_mul_right 400 h.2)
end Go.Proofs.Ytfiamddinkokbaa.F
end

section
set_option linter.unusedVariables false
set_option linter.unusedSimpArgs false
namespace Go.Proofs.Ytfiamddinkokbaa.F
open Go.RowKit Go.Proofs.YtfiamddinkokbaaW.PrintWords Go.Proofs.YtfiamddinkokbaaW.PrintLast Go.Proofs.YtfiamddinkokbaaW.PrintMore
set_option linter.unusedVariables false
set_option linter.unusedSimpArgs false
theorem pureLinesJoins (l : List ByteArray) (hl : l.length ≤ 8796093021952) : ∃ k, tripartitelaw01_LinesJoins.f k l = some true := by
  refine Ev.get ?_
  unfold tripartitelaw01_LinesJoins.f
  refine Ev.bind (ev_few01 l (by omega)) ?_
  by_cases h : fewL l = true
  · obtain ⟨h1, h2, h3⟩ := fewL_true h
    have h2' : ∀ s ∈ l, s.size ≤ 4000000000 := fun s hs => by have := h2 s hs; omega
    refine Ev.pos h (Ev.bind (Ev.const (lines_join l (by omega) (by omega))) (Ev.bind (Ev.const rfl) (Ev.pos rfl ?_)))
    refine Ev.bind (ev_ref_join l (by omega) (by omega)) (Ev.pos rfl ?_)
    refine Ev.bind (ev_lines_whole l (by omega) h2') (Ev.bind (ev_ref_whole l (by omega) h2') ?_)
    rw [bne_self_eq_false]
    refine Ev.succ ?_
    simp only [tripartitelaw01_LinesJoins.j0]
    refine Ev.neg (by decide) (Ev.bind (ev_ref_whole l (by omega) h2') ?_)
    by_cases hw : wholeP l = true
    · refine Ev.pos hw (Ev.bind (Ev.const (lines_split _ (by omega))) ?_)
      rw [split_cat l hw]
      exact Ev.bind (ev_ref_same01 _ _ (by omega) (by omega)) (Ev.val (by simp))
    · exact Ev.neg hw (Ev.val rfl)
  · exact Ev.neg h (Ev.bind (Ev.const rfl) (Ev.val rfl))
end Go.Proofs.Ytfiamddinkokbaa.F
namespace Go.Proofs.Ytfiamddinkokbaa
theorem Pure.LinesJoins (l0 : List ByteArray) (w0 : ∀ s ∈ l0, s.size ≤ 140737488351232) (y0 : l0.length ≤ 8796093021952) : ∃ k, F.tripartitelaw01_LinesJoins.f k l0 = some true := F.pureLinesJoins l0 y0
end Go.Proofs.Ytfiamddinkokbaa
end
