/- Texts joined into one file (wip/tools/pack.py): Pure, Pure01, PureLines, PureLinesSplits -/
import Derived.Test.YtfiamddinkokbaaLS1
section
set_option linter.unusedVariables false
set_option linter.unusedSimpArgs false
namespace Go.Proofs.Ytfiamddinkokbaa
open Go.RowKit Go.Proofs.YtfiamddinkokbaaW.PrintWords
set_option linter.unusedVariables false
def Ev {α : Type} (F : Nat → Option α) (v : α) : Prop := ∃ K, ∀ k, K ≤ k → F k = some v
namespace Ev
variable {α β : Type} {F G : Nat → Option α} {H : Nat → α → Option β} {v a : α} {b : β}
theorem get (h : Ev F v) : ∃ k, F k = some v := let ⟨K, hK⟩ := h; ⟨K, hK K (Nat.le_refl K)⟩
theorem val {x : α} (h : x = v) : Ev (fun _ => some x) v := ⟨0, fun _ _ => by rw [h]⟩
theorem const {o : Option α} (h : o = some v) : Ev (fun _ => o) v := ⟨0, fun _ _ => h⟩
theorem succ (h : Ev (fun k => F (k + 1)) v) : Ev F v := let ⟨K, hK⟩ := h; ⟨K + 1, fun k hk => by
  obtain ⟨j, rfl⟩ : ∃ j, k = j + 1 := ⟨k - 1, by omega⟩
  exact hK j (by omega)⟩
theorem pos {c : Prop} [Decidable c] (hc : c) (h : Ev F v) : Ev (fun k => if c then F k else G k) v := by simpa only [if_pos hc] using h
theorem neg {c : Prop} [Decidable c] (hc : ¬ c) (h : Ev G v) : Ev (fun k => if c then F k else G k) v := by simpa only [if_neg hc] using h
theorem bind {F : Nat → Option α} (h : Ev F a) (h' : Ev (fun k => H k a) b) : Ev (fun k => (F k).bind (H k)) b := by
  obtain ⟨K, hK⟩ := h
  obtain ⟨L, hL⟩ := h'
  refine ⟨max K L, fun k hk => ?_⟩
  show (F k).bind (H k) = some b
  rw [hK k (by omega)]
  exact hL k (by omega)
theorem cast (h : Ev F a) (e : a = v) : Ev F v := e ▸ h
end Ev
theorem wrap_in {n : Int} (h0 : -9223372036854775808 ≤ n) (h1 : n ≤ 9223372036854775807) : wrap64 n = n := by unfold wrap64; omega
theorem size_data (s : ByteArray) : s.data.toList.length = s.size := Array.length_toList
theorem bytes_toList (s : ByteArray) : s.toList = s.data.toList := by
  exact ByteArray.toList_eq s
theorem bt_at (s : ByteArray) (i : Int) (xs ys : List UInt8) (c : UInt8) (h : s.data.toList = xs ++ c :: ys) (hi : i = xs.length) : bt s i = (c.toNat : Int) := by
  have hs : xs.length < s.size := by rw [← size_data, h]; simp
  subst hi
  unfold bt
  rw [dif_pos (by simpa using hs)]
  have : s.data.toList[xs.length]? = some c := by rw [h]; simp
  have h2 := getElem?_byte s xs.length hs
  rw [this] at h2
  have h3 : s[xs.length] = c := (Option.some.inj h2).symm
  simp only [Int.toNat_natCast, h3]
theorem extract_at (s : ByteArray) (i j : Int) (xs ys zs : List UInt8) (h : s.data.toList = xs ++ ys ++ zs) (hi : i = xs.length) (hj : j = xs.length + ys.length) : s.extract i.toNat j.toNat = toB ys := by
  subst hi hj
  have hd : (s.extract (xs.length : Int).toNat ((xs.length : Int) + ys.length).toNat).data.toList = ys := by
    rw [ByteArray.data_extract, Array.toList_extract, h]
    simp [Int.toNat_natCast]
    rw [show ((xs.length : Int) + ys.length).toNat = xs.length + ys.length from by omega]
    simp
  rw [← toB_data (s.extract _ _), hd]
theorem size_toB (l : List UInt8) : (toB l).size = l.length := by rw [← size_data, data_toB]
theorem bytes_ext {a b : ByteArray} (h : a.data.toList = b.data.toList) : a = b := by rw [← toB_data a, h, toB_data]
theorem rdOf_at {α : Type} (d : α) (l : List α) (i : Int) (xs ys : List α) (c : α) (h : l = xs ++ c :: ys) (hi : i = xs.length) : rdOf d l i = c := by
  subst h hi
  unfold rdOf
  simp [Int.toNat_natCast, List.getD_eq_getElem?_getD]
end Go.Proofs.Ytfiamddinkokbaa
end

section
set_option linter.unusedVariables false
set_option linter.unusedSimpArgs false
namespace Go.Proofs.Ytfiamddinkokbaa.F
open Go.RowKit Go.Proofs.YtfiamddinkokbaaW.PrintWords Go.Proofs.YtfiamddinkokbaaW.PrintLast Go.Proofs.YtfiamddinkokbaaW.PrintMore
set_option linter.unusedVariables false
set_option linter.unusedSimpArgs false
theorem takeLine_line : ∀ (p : List UInt8) (rest : List UInt8), (10 : UInt8) ∉ p → takeLine (p ++ 10 :: rest) = p ++ [10] ∧ dropLine (p ++ 10 :: rest) = rest
  | [], rest, _ => by simp [takeLine, dropLine]
  | c :: p, rest, h => by
    have hc : c ≠ 10 := fun e => h (by simp [e])
    have ih := takeLine_line p rest (fun e => h (by simp [e]))
    simp [takeLine, dropLine, hc, ih.1, ih.2]
theorem splitL_line (p : List UInt8) (rest : List UInt8) (h : (10 : UInt8) ∉ p) : splitL (p ++ 10 :: rest) = (p ++ [10]) :: splitL rest := by
  rw [splitL_next _ (by simp), (takeLine_line p rest h).1, (takeLine_line p rest h).2]
theorem splitL_last : ∀ (p : List UInt8), p ≠ [] → (10 : UInt8) ∉ p → splitL p = [p]
  | [], hp, _ => absurd rfl hp
  | c :: p, _, h => by
    have hc : c ≠ 10 := fun e => h (by simp [e])
    by_cases hp : p = []
    · subst hp; simp [splitL, hc]
    · have ih := splitL_last p hp (fun e => h (by simp [e]))
      simp [splitL, hc, ih]
theorem byte_ne {c : UInt8} {n : Nat} (hn : n < 256) (h : ¬ (c.toNat : Int) = n) : c ≠ (UInt8.ofNat n) := fun e => h (by rw [e]; simp [UInt8.toNat_ofNat]; omega)
theorem byte_eq {c : UInt8} {n : Nat} (hn : n < 256) (h : (c.toNat : Int) = n) : c = (UInt8.ofNat n) := UInt8.toNat.inj (by simp; omega)
theorem split_l0 (a : ByteArray) (hs : a.size ≤ 4000000000) : ∀ (rest done p : List UInt8) (x3 : List ByteArray) (s i : Int), a.data.toList = done ++ p ++ rest → (10 : UInt8) ∉ p → x3.length ≤ done.length → (rest = [] → p = []) →
    s = done.length → i = done.length + p.length → Ev (fun k => tripartiteref01_Split.l0 k a x3 s i) (x3 ++ (splitL (p ++ rest)).map toB)
  | [], done, p, x3, s, i, ha, hp, hx, hr, es, ei => by
    obtain rfl := hr rfl
    have hsz : a.size = done.length := by rw [← size_data, ha]; simp
    refine Ev.succ ?_
    simp only [tripartiteref01_Split.l0]
    refine Ev.neg (by simp at ei; omega) (Ev.val (by simp [splitL]))
  | c :: rest, done, p, x3, s, i, ha, hp, hx, hr, es, ei => by
    have hsz : a.size = done.length + p.length + (rest.length + 1) := by rw [← size_data, ha]; simp; omega
    have hw : wrap64 (i + 1) = i + 1 := wrap_in (by omega) (by omega)
    have hb : bt a i = (c.toNat : Int) := bt_at a i (done ++ p) rest c (by rw [ha]) (by simp; omega)
    have hex : a.extract (s : Int).toNat (i + 1 : Int).toNat = toB (p ++ [c]) := extract_at a s (i + 1) done (p ++ [c]) rest (by rw [ha]; simp) es (by simp; omega)
    refine Ev.succ ?_
    simp only [tripartiteref01_Split.l0, hw, hb, hex]
    refine Ev.pos (by omega) (Ev.pos (by omega) ?_)
    by_cases hc : (c.toNat : Int) = 10
    · have hc' : c = 10 := byte_eq (n := 10) (by decide) hc
      subst hc'
      refine Ev.pos hc (Ev.pos (by omega) (Ev.pos (by omega) (Ev.pos (by omega) (Ev.pos (by omega) ?_))))
      refine (split_l0 a hs rest (done ++ p ++ [10]) [] _ _ _ (by rw [ha]; simp) (by simp) (by simp; omega) (fun _ => rfl) (by simp; omega) (by simp; omega)).cast ?_
      rw [splitL_line p rest hp]; simp
    · have hc' : c ≠ 10 := byte_ne (n := 10) (by decide) hc
      refine Ev.neg hc ?_
      have hp' : (10 : UInt8) ∉ p ++ [c] := by simp [hp]; exact fun e => hc' e.symm
      cases rest with
      | nil =>
        refine Ev.pos (by simp at hsz; omega) (Ev.pos (by omega) (Ev.pos (by omega) (Ev.pos (by omega) (Ev.pos (by omega) ?_))))
        refine (split_l0 a hs [] (done ++ p ++ [c]) [] _ _ _ (by rw [ha]; simp) (by simp) (by simp; omega) (fun _ => rfl) (by simp; omega) (by simp; omega)).cast ?_
        rw [splitL_last (p ++ [c]) (by simp) hp']; simp [splitL]
      | cons d rest =>
        refine Ev.neg (by simp at hsz; omega) ?_
        refine (split_l0 a hs (d :: rest) done (p ++ [c]) _ _ _ (by rw [ha]; simp) hp' hx (fun h => by cases h) es (by simp; omega)).cast ?_
        simp
theorem ref_split (a : ByteArray) (hs : a.size ≤ 4000000000) : Ev (fun k => tripartiteref01_Split.f k a) (splitB a) :=
  (split_l0 a hs a.data.toList [] [] [] 0 0 (by simp) (by simp) (by simp) (fun _ => rfl) rfl rfl).cast (by simp [splitB])
theorem isEmpty_toList (s : ByteArray) : s.toList = [] ↔ s.data.toList = [] := by rw [bytes_toList]
theorem lines_split (a : ByteArray) (hs : a.size ≤ 4000000000) : lines_Split.f a = some (splitB a) := by unfold lines_Split.f; rw [if_pos hs]
theorem splitL_mem : ∀ (l : List UInt8) (x : List UInt8), x ∈ splitL l → x.length ≤ l.length := by
  intro l
  induction h : l.length using Nat.strongRecOn generalizing l with
  | ind n ih =>
    intro x hx
    by_cases hl : l = []
    · subst hl; simp [splitL] at hx
    · rw [splitL_next l hl] at hx
      have ht := congrArg List.length (take_drop_line l)
      rw [List.length_append] at ht
      rcases List.mem_cons.1 hx with rfl | hx
      · omega
      · have hpos : 0 < (takeLine l).length := by
          cases l with
          | nil => exact absurd rfl hl
          | cons c t => simp only [takeLine]; split <;> simp
        have := ih (dropLine l).length (by omega) (dropLine l) rfl x hx
        omega
theorem splitB_length (s : ByteArray) : (splitB s).length ≤ s.size := by
  unfold splitB; rw [List.length_map, ← size_data]; exact splitL_length_le _
theorem splitB_mem (s x : ByteArray) (h : x ∈ splitB s) : x.size ≤ s.size := by
  obtain ⟨y, hy, rfl⟩ := List.mem_map.1 h
  rw [size_toB, ← size_data]; exact splitL_mem _ _ hy
end Go.Proofs.Ytfiamddinkokbaa.F
end

section
set_option linter.unusedVariables false
set_option linter.unusedSimpArgs false
namespace Go.Proofs.Ytfiamddinkokbaa.F
open Go.RowKit Go.Proofs.YtfiamddinkokbaaW.PrintWords Go.Proofs.YtfiamddinkokbaaW.PrintLast Go.Proofs.YtfiamddinkokbaaW.PrintMore
set_option linter.unusedVariables false
set_option linter.unusedSimpArgs false
theorem nl_cases : ∀ p : List UInt8, (10 : UInt8) ∉ p ∨ ∃ q r, (10 : UInt8) ∉ q ∧ p = q ++ 10 :: r
  | [] => .inl (by simp)
  | c :: p => by
    by_cases hc : c = 10
    · subst hc; exact .inr ⟨[], p, by simp, rfl⟩
    · rcases nl_cases p with h | ⟨q, r, hq, rfl⟩
      · left; simp [h]; exact fun e => hc e.symm
      · right; refine ⟨c :: q, r, ?_, rfl⟩; simp [hq]; exact fun e => hc e.symm
theorem index_no : ∀ p : List UInt8, (10 : UInt8) ∉ p → Lib.indexByte p 10 = -1
  | [], _ => rfl
  | c :: p, h => by
    have hc : (c == 10) = false := by simpa using fun e : c = 10 => h (by simp [e])
    have ih := index_no p (fun e => h (by simp [e]))
    unfold Lib.indexByte; simp [hc, ih]
theorem index_at : ∀ q r : List UInt8, (10 : UInt8) ∉ q → Lib.indexByte (q ++ 10 :: r) 10 = q.length
  | [], r, _ => by simp [Lib.indexByte]
  | c :: q, r, h => by
    have hc : (c == 10) = false := by simpa using fun e : c = 10 => h (by simp [e])
    have ih := index_at q r (fun e => h (by simp [e]))
    rw [List.cons_append]
    unfold Lib.indexByte
    rw [ih]
    have : ¬ ((q.length : Int) = -1) := by omega
    simp [hc, this]
def oneL (p : List UInt8) : Bool := (splitL p).length == 1
def endsL (p : List UInt8) : Bool := p.getLast? == some 10
theorem oneL_no (p : List UInt8) (h : (10 : UInt8) ∉ p) : oneL p = !p.isEmpty := by
  unfold oneL
  cases p with
  | nil => rfl
  | cons c p => rw [splitL_last (c :: p) (by simp) h]; rfl
theorem oneL_at (q r : List UInt8) (h : (10 : UInt8) ∉ q) : oneL (q ++ 10 :: r) = r.isEmpty := by
  unfold oneL
  rw [splitL_line q r h]
  cases r with
  | nil => rfl
  | cons c r =>
    have : splitL (c :: r) ≠ [] := fun e => by simp [splitL_nil_iff] at e
    cases hs : splitL (c :: r) with
    | nil => exact absurd hs this
    | cons a b => simp [hs]
theorem endsL_no (p : List UInt8) (h : (10 : UInt8) ∉ p) : endsL p = false := by
  unfold endsL
  rcases List.eq_nil_or_concat p with rfl | ⟨u, z, rfl⟩
  · rfl
  · rw [List.concat_eq_append] at h ⊢
    rw [List.getLast?_concat]
    have : z ≠ 10 := fun e => h (by simp [e])
    simpa using this
theorem endsL_at (q : List UInt8) : endsL (q ++ [10]) = true := by unfold endsL; rw [List.getLast?_concat]; rfl
def wholeP : List ByteArray → Bool
  | [] => true
  | [x] => oneL x.data.toList
  | x :: y :: r => oneL x.data.toList && (endsL x.data.toList && wholeP (y :: r))
theorem wholeP_cons (x : ByteArray) (r : List ByteArray) : wholeP (x :: r) = (oneL x.data.toList && ((r.isEmpty || endsL x.data.toList) && wholeP r)) := by
  cases r with
  | nil => simp [wholeP]
  | cons y r => simp [wholeP]
theorem lines_index (a : ByteArray) : strings_Index.f a (⟨#[10]⟩ : ByteArray) = some (Lib.indexByte a.data.toList 10) := rfl
theorem lines_whole_in (l : List ByteArray) (hn : l.length ≤ 4000000000) (hs : ∀ s ∈ l, s.size ≤ 4000000000) : ∀ (rest done : List ByteArray) (i : Int), l = done ++ rest → i = done.length → Ev (fun k => lines_Whole.l0 k l l (l.length : Int) i) (wholeP rest)
  | [], done, i, hl, ei => by
    refine Ev.succ ?_
    simp only [lines_Whole.l0]
    refine Ev.neg (by rw [hl]; simp; omega) (Ev.val rfl)
  | x :: rest, done, i, hl, ei => by
    have hsz : l.length = done.length + (rest.length + 1) := by rw [hl]; simp
    have hw : wrap64 (i + 1) = i + 1 := wrap_in (by omega) (by omega)
    have hwl : wrap64 ((l.length : Int) - 1) = (l.length : Int) - 1 := wrap_in (by omega) (by omega)
    have hb : rdOf ByteArray.empty l i = x := rdOf_at _ l i done rest x hl ei
    have hx := hs x (by rw [hl]; simp)
    have hwx : wrap64 ((x.size : Int) - 1) = (x.size : Int) - 1 := wrap_in (by omega) (by omega)
    have again := lines_whole_in l hn hs rest (done ++ [x]) (i + 1) (by rw [hl]; simp) (by simp; omega)
    rw [wholeP_cons]
    refine Ev.succ ?_
    simp only [lines_Whole.l0, hw, hwl, hwx, hb]
    refine Ev.pos (by omega) (Ev.pos (by omega) (Ev.pos (by omega) (Ev.bind (Ev.const (lines_index x)) ?_)))
    have hd := size_data x
    rcases nl_cases x.data.toList with hno | ⟨q, r, hq, hx2⟩
    · rw [index_no _ hno, oneL_no _ hno, endsL_no _ hno]
      by_cases he : x.toList = []
      · refine Ev.pos he (Ev.val ?_)
        rw [(isEmpty_toList x).1 he]; rfl
      · have he2 : x.data.toList.isEmpty = false := by
          cases h : x.data.toList with
          | nil => exact absurd ((isEmpty_toList x).2 h) he
          | cons a b => rfl
        rw [he2]
        refine Ev.neg he (Ev.neg (by decide) (Ev.pos (by decide) ?_))
        cases rest with
        | nil => exact Ev.neg (by simp at hsz; omega) (again.cast (by rfl))
        | cons y r => exact Ev.pos (by simp at hsz; omega) (Ev.val (by simp))
    · have hlen : x.size = q.length + (r.length + 1) := by rw [← hd, hx2]; simp
      have he : ¬ x.toList = [] := fun e => by
        have := (isEmpty_toList x).1 e
        rw [hx2] at this; simp at this
      rw [hx2, index_at q r hq, oneL_at q r hq]
      refine Ev.neg he (Ev.pos (by omega) ?_)
      cases r with
      | nil =>
        refine Ev.pos (by simp at hlen; omega) (Ev.neg (by omega) ?_)
        exact again.cast (by rw [endsL_at]; simp)
      | cons c r => exact Ev.neg (by simp at hlen; omega) (Ev.val (by simp))
theorem ev_lines_whole (l : List ByteArray) (hn : l.length ≤ 4000000000) (hs : ∀ s ∈ l, s.size ≤ 4000000000) : Ev (fun k => lines_Whole.f k l) (wholeP l) := lines_whole_in l hn hs l [] 0 rfl rfl
theorem toList_inj {a b : ByteArray} (h : a.toList = b.toList) : a = b := bytes_ext (by rw [← bytes_toList, ← bytes_toList, h])
theorem ref_same01_in (a b : List ByteArray) (hn : a.length ≤ 4000000000) (hab : a.length = b.length) : ∀ (ra rb da db : List ByteArray) (i : Int), a = da ++ ra → b = db ++ rb → da.length = db.length → i = da.length → Ev (fun k => tripartiteref01_Same.l0 k a b i) (decide (ra = rb))
  | [], rb, da, db, i, ha, hb, hd, ei => by
    have : rb = [] := by
      rw [ha, hb] at hab; simp at hab; exact List.length_eq_zero_iff.1 (by omega)
    subst this
    refine Ev.succ ?_
    simp only [tripartiteref01_Same.l0]
    refine Ev.neg (by rw [ha]; simp; omega) (Ev.val (by simp))
  | x :: ra, [], da, db, i, ha, hb, hd, ei => by
    rw [ha, hb] at hab; simp at hab; omega
  | x :: ra, y :: rb, da, db, i, ha, hb, hd, ei => by
    have hsz : a.length = da.length + (ra.length + 1) := by rw [ha]; simp
    have hw : wrap64 (i + 1) = i + 1 := wrap_in (by omega) (by omega)
    refine Ev.succ ?_
    simp only [tripartiteref01_Same.l0, hw, rdOf_at _ a i da ra x ha ei, rdOf_at _ b i db rb y hb (by omega)]
    refine Ev.pos (by omega) (Ev.pos (by omega) (Ev.pos (by omega) ?_))
    by_cases he : x.toList = y.toList
    · refine Ev.pos he ?_
      have hxy := toList_inj he
      subst hxy
      refine (ref_same01_in a b hn hab ra rb (da ++ [x]) (db ++ [x]) (i + 1) (by rw [ha]; simp) (by rw [hb]; simp) (by simp [hd]) (by simp; omega)).cast ?_
      exact decide_eq_decide.2 ⟨fun h => by rw [h], fun h => (List.cons.inj h).2⟩
    · refine Ev.neg he (Ev.val ?_)
      exact (decide_eq_false (fun h => he (by rw [(List.cons.inj h).1]))).symm
theorem ev_ref_same01 (a b : List ByteArray) (hn : a.length ≤ 4000000000) (hm : b.length ≤ 4000000000) : Ev (fun k => tripartiteref01_Same.f k a b) (decide (a = b)) := by
  unfold tripartiteref01_Same.f
  by_cases h : (a.length : Int) = b.length
  · exact Ev.pos h (ref_same01_in a b hn (by omega) a b [] [] 0 rfl rfl rfl rfl)
  · exact Ev.neg h (Ev.val (decide_eq_false (fun e => h (by rw [e]))).symm)
def catB (l : List ByteArray) : ByteArray := toB (l.flatMap fun s => s.data.toList)
theorem joinB_empty (l : List ByteArray) : joinB l ⟨#[]⟩ = catB l := by
  unfold joinB catB
  congr 1
  cases l with
  | nil => rfl
  | cons x r =>
    rw [List.map_cons, Lib.join_cons]
    simp [Lib.joinTail, List.flatMap]
    rfl
theorem lines_join (l : List ByteArray) (hn : l.length ≤ 4000000000) (hs : (catB l).size ≤ 4000000000) : lines_Join.f l = some (catB l) := by
  unfold lines_Join.f strings_Join.f
  rw [joinB_empty, if_pos ⟨by omega, by omega⟩]; rfl
theorem split_flat : ∀ p : List UInt8, (splitL p).flatten = p := by
  intro p
  induction h : p.length using Nat.strongRecOn generalizing p with
  | ind n ih =>
    by_cases hp : p = []
    · subst hp; rfl
    · rw [splitL_next p hp, List.flatten_cons]
      have ht := congrArg List.length (take_drop_line p)
      rw [List.length_append] at ht
      have hpos : 0 < (takeLine p).length := by
        cases p with
        | nil => exact absurd rfl hp
        | cons c t => simp only [takeLine]; split <;> simp
      rw [ih (dropLine p).length (by omega) _ rfl, take_drop_line]
theorem cat_split (s : ByteArray) : catB (splitB s) = s := by
  refine bytes_ext ?_
  unfold catB splitB
  rw [data_toB, List.flatMap_map]
  have : (splitL s.data.toList).flatMap (fun a => (toB a).data.toList) = (splitL s.data.toList).flatten := by
    simp [List.flatMap]
  rw [this, split_flat]
theorem whole_map : ∀ p : List UInt8, wholeP ((splitL p).map toB) = true := by
  intro p
  induction h : p.length using Nat.strongRecOn generalizing p with
  | ind n ih =>
    rcases nl_cases p with hno | ⟨q, r, hq, rfl⟩
    · by_cases hp : p = []
      · subst hp; rfl
      · rw [splitL_last p hp hno]
        show oneL (toB p).data.toList = true
        rw [data_toB, oneL_no p hno]
        cases p with
        | nil => exact absurd rfl hp
        | cons a b => rfl
    · rw [splitL_line q r hq, List.map_cons, wholeP_cons, data_toB, oneL_at q [] hq, endsL_at, ih r.length (by rw [← h]; simp; omega) r rfl]
      simp
theorem whole_split (s : ByteArray) : wholeP (splitB s) = true := whole_map s.data.toList
end Go.Proofs.Ytfiamddinkokbaa.F
end

section
set_option linter.unusedVariables false
set_option linter.unusedSimpArgs false
namespace Go.Proofs.Ytfiamddinkokbaa.F
open Go.RowKit Go.Proofs.YtfiamddinkokbaaW.PrintWords Go.Proofs.YtfiamddinkokbaaW.PrintLast Go.Proofs.YtfiamddinkokbaaW.PrintMore
set_option linter.unusedVariables false
set_option linter.unusedSimpArgs false
theorem pureLinesSplits : tripartitelaw01_LinesSplits.Pure := by
  intro a0 h1
  refine Ev.get ?_
  have m1 : 0 ≤ mn (a0.size : Int) 1000 ∧ mn (a0.size : Int) 1000 ≤ a0.size ∧ mn (a0.size : Int) 1000 ≤ 1000 := by unfold mn; split <;> omega
  have c1 : (a0.extract 0 (mn (a0.size : Int) 1000).toNat).size ≤ 1000 := by rw [ByteArray.size_extract]; omega
  unfold tripartitelaw01_LinesSplits.f
  generalize a0.extract 0 (mn (a0.size : Int) 1000).toNat = x at c1 ⊢
  have hl := splitB_length x
  have hm := fun y => splitB_mem x y
  have hc : (catB (splitB x)).size ≤ 4000000000 := by rw [cat_split]; omega
  refine Ev.pos (by omega) (Ev.pos (by omega) (Ev.bind (Ev.const (lines_split x (by omega))) (Ev.bind (Ev.const rfl) (Ev.pos rfl ?_))))
  refine Ev.bind (ref_split x (by omega)) (Ev.bind (ev_ref_same01 _ _ (by omega) (by omega)) (Ev.pos (by simp) ?_))
  refine Ev.bind (Ev.const (lines_join _ (by omega) hc)) (Ev.pos (by rw [cat_split]) ?_)
  exact Ev.bind (ev_lines_whole _ (by omega) (fun y hy => by have := hm y hy; omega)) (Ev.val (whole_split x))
end Go.Proofs.Ytfiamddinkokbaa.F
namespace Go.Proofs.Ytfiamddinkokbaa
theorem Pure.LinesSplits : F.tripartitelaw01_LinesSplits.Pure := F.pureLinesSplits
end Go.Proofs.Ytfiamddinkokbaa
end
