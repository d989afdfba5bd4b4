/- Texts joined into one file (wip/tools/pack.py): Open, Pure, Pure01, PureLines, PureMark, PureMark2, PureMarkReads, PureMarkLines, PureBig -/
import Derived.Test.YtfiamddinkokbaaML1
import Derived.SliceStrings
import Derived.SizedLaws
import Derived.Deep.Slices
import Derived.Deep.Fields
import Derived.ChangeSame
import Derived.Lib.SmallJoins
import Derived.Test.YtfiamddinkokbaaML2
import Derived.Test.YtfiamddinkokbaaML3
import Derived.Test.YtfiamddinkokbaaML4
section
set_option linter.unusedVariables false
set_option linter.unusedSimpArgs false
namespace Go.Proofs.Ytfiamddinkokbaa.F
open Go.RowKit Go.Proofs.YtfiamddinkokbaaW.PrintWords Go.ChangeShapes Go.WideShapes Go.Deep Go.Joins
set_option linter.unusedVariables false
set_option linter.unusedSimpArgs false
section
variable {H : Type} {enc : TypeId × Value → H} {P : Program} {W : World} {base : Nat} {spare : Nat → Bool} {held : Bool}
end
section
variable {H : Type} {enc : TypeId × Value → H} {P : Program} {w : World} {base : Nat} {spare : Nat → Bool} {held : Bool}
end
section
variable {H : Type} {enc : TypeId × Value → H} {W : World} {base : Nat} {spare : Nat → Bool} {held : Bool}
end
end Go.Proofs.Ytfiamddinkokbaa.F
end

section
set_option linter.unusedVariables false
set_option linter.unusedSimpArgs false
namespace Go.Proofs.Ytfiamddinkokbaa
open Go.RowKit Go.Proofs.YtfiamddinkokbaaW.PrintWords
set_option linter.unusedVariables false
def Ev {α : Type} (F : Nat → Option α) (v : α) : Prop := ∃ K, ∀ k, K ≤ k → F k = some v
namespace Ev
variable {α β : Type} {F G : Nat → Option α} {H : Nat → α → Option β} {v a : α} {b : β}
theorem get (h : Ev F v) : ∃ k, F k = some v := let ⟨K, hK⟩ := h; ⟨K, hK K (Nat.le_refl K)⟩
theorem val {x : α} (h : x = v) : Ev (fun _ => some x) v := ⟨0, fun _ _ => by rw [h]⟩
theorem const {o : Option α} (h : o = some v) : Ev (fun _ => o) v := ⟨0, fun _ _ => h⟩
theorem of_mono (hm : ∀ k, LeO (F k) (F (k + 1))) {k : Nat} (h : F k = some v) : Ev F v := ⟨k, fun j hj => by
  induction hj with
  | refl => exact h
  | step _ ih => exact hm _ _ ih⟩
theorem succ (h : Ev (fun k => F (k + 1)) v) : Ev F v := let ⟨K, hK⟩ := h; ⟨K + 1, fun k hk => by
  obtain ⟨j, rfl⟩ : ∃ j, k = j + 1 := ⟨k - 1, by omega⟩
  exact hK j (by omega)⟩
theorem pos {c : Prop} [Decidable c] (hc : c) (h : Ev F v) : Ev (fun k => if c then F k else G k) v := by simpa only [if_pos hc] using h
theorem neg {c : Prop} [Decidable c] (hc : ¬ c) (h : Ev G v) : Ev (fun k => if c then F k else G k) v := by simpa only [if_neg hc] using h
theorem bind {F : Nat → Option α} (h : Ev F a) (h' : Ev (fun k => H k a) b) : Ev (fun k => (F k).bind (H k)) b := by
  obtain ⟨K, hK⟩ := h
  obtain ⟨L, hL⟩ := h'
  refine ⟨max K L, fun k hk => ?_⟩
  show (F k).bind (H k) = some b
  rw [hK k (by omega)]
  exact hL k (by omega)
theorem cast (h : Ev F a) (e : a = v) : Ev F v := e ▸ h
end Ev
theorem wrap_in {n : Int} (h0 : -9223372036854775808 ≤ n) (h1 : n ≤ 9223372036854775807) : wrap64 n = n := by unfold wrap64; omega
theorem size_data (s : ByteArray) : s.data.toList.length = s.size := Array.length_toList
theorem bytes_toList (s : ByteArray) : s.toList = s.data.toList := by
  exact ByteArray.toList_eq s
theorem bytes_bt (s : ByteArray) (i : Int) (xs ys : List UInt8) (c : UInt8) (h : s.data.toList = xs ++ c :: ys) (hi : i = xs.length) : bt s i = (c.toNat : Int) := by
  have hs : xs.length < s.size := by rw [← size_data, h]; simp
  subst hi
  unfold bt
  rw [dif_pos (by simpa using hs)]
  have : s.data.toList[xs.length]? = some c := by rw [h]; simp
  have h2 := getElem?_byte s xs.length hs
  rw [this] at h2
  have h3 : s[xs.length] = c := (Option.some.inj h2).symm
  simp only [Int.toNat_natCast, h3]
theorem size_toB (l : List UInt8) : (toB l).size = l.length := by rw [← size_data, data_toB]
theorem bytes_ext {a b : ByteArray} (h : a.data.toList = b.data.toList) : a = b := by rw [← toB_data a, h, toB_data]
end Go.Proofs.Ytfiamddinkokbaa
end

section
set_option linter.unusedVariables false
set_option linter.unusedSimpArgs false
namespace Go.Proofs.Ytfiamddinkokbaa.F
open Go.RowKit Go.Proofs.YtfiamddinkokbaaW.PrintWords Go.Proofs.YtfiamddinkokbaaW.PrintLast Go.Proofs.YtfiamddinkokbaaW.PrintMore
set_option linter.unusedVariables false
set_option linter.unusedSimpArgs false
theorem byte_ne {c : UInt8} {n : Nat} (hn : n < 256) (h : ¬ (c.toNat : Int) = n) : c ≠ (UInt8.ofNat n) := fun e => h (by rw [e]; simp [UInt8.toNat_ofNat]; omega)
theorem byte_eq {c : UInt8} {n : Nat} (hn : n < 256) (h : (c.toNat : Int) = n) : c = (UInt8.ofNat n) := UInt8.toNat.inj (by simp; omega)
def runI (s : ByteArray) : Int := (runL s.data.toList : Nat)
theorem cut_snoc (c : UInt8) : ∀ l : List UInt8, l.length = (l.takeWhile (· == c)).length + (cutL c l).length := by
  intro l
  have := congrArg List.length (List.takeWhile_append_dropWhile (p := fun x => x == c) (l := l))
  rw [List.length_append] at this
  exact this.symm
theorem lines_run (a : ByteArray) (hs : a.size ≤ 4000000000) : lines_Run.f a = some (runI a) := by unfold lines_Run.f; rw [if_pos hs]; rfl
theorem runI_le (s : ByteArray) : runI s ≤ s.size := by unfold runI; have := runL_le s.data.toList; rw [size_data] at this; omega
end Go.Proofs.Ytfiamddinkokbaa.F
end

section
set_option linter.unusedVariables false
set_option linter.unusedSimpArgs false
namespace Go.Proofs.Ytfiamddinkokbaa.F
open Go.RowKit Go.Proofs.YtfiamddinkokbaaW.PrintWords Go.Proofs.YtfiamddinkokbaaW.PrintLast Go.Proofs.YtfiamddinkokbaaW.PrintMore
set_option linter.unusedVariables false
set_option linter.unusedSimpArgs false
theorem nl_cases : ∀ p : List UInt8, (10 : UInt8) ∉ p ∨ ∃ q r, (10 : UInt8) ∉ q ∧ p = q ++ 10 :: r
  | [] => .inl (by simp)
  | c :: p => by
    by_cases hc : c = 10
    · subst hc; exact .inr ⟨[], p, by simp, rfl⟩
    · rcases nl_cases p with h | ⟨q, r, hq, rfl⟩
      · left; simp [h]; exact fun e => hc e.symm
      · right; refine ⟨c :: q, r, ?_, rfl⟩; simp [hq]; exact fun e => hc e.symm
theorem index_no : ∀ p : List UInt8, (10 : UInt8) ∉ p → Lib.indexByte p 10 = -1
  | [], _ => rfl
  | c :: p, h => by
    have hc : (c == 10) = false := by simpa using fun e : c = 10 => h (by simp [e])
    have ih := index_no p (fun e => h (by simp [e]))
    unfold Lib.indexByte; simp [hc, ih]
theorem index_at : ∀ q r : List UInt8, (10 : UInt8) ∉ q → Lib.indexByte (q ++ 10 :: r) 10 = q.length
  | [], r, _ => by simp [Lib.indexByte]
  | c :: q, r, h => by
    have hc : (c == 10) = false := by simpa using fun e : c = 10 => h (by simp [e])
    have ih := index_at q r (fun e => h (by simp [e]))
    rw [List.cons_append]
    unfold Lib.indexByte
    rw [ih]
    have : ¬ ((q.length : Int) = -1) := by omega
    simp [hc, this]
def endsL (p : List UInt8) : Bool := p.getLast? == some 10
end Go.Proofs.Ytfiamddinkokbaa.F
end

section
set_option linter.unusedVariables false
set_option linter.unusedSimpArgs false
namespace Go.Proofs.Ytfiamddinkokbaa.F
open Go.RowKit Go.Proofs.YtfiamddinkokbaaW.PrintWords Go.Proofs.YtfiamddinkokbaaW.PrintLast Go.Proofs.YtfiamddinkokbaaW.PrintMore
set_option linter.unusedVariables false
set_option linter.unusedSimpArgs false
theorem lineless_iff (s : ByteArray) : lineless s = decide ((10 : UInt8) ∈ s.data.toList) := by
  unfold lineless
  rcases nl_cases s.data.toList with h | ⟨q, r, h, e⟩
  · rw [index_no _ h]; simp [h]
  · rw [e, index_at q r h]; simp
theorem toB_toList (l : List UInt8) : (toB l).toList = l := by rw [bytes_toList, data_toB]
theorem extract_data (s : ByteArray) (i j : Nat) : (s.extract i j).data.toList = (s.data.toList.take j).drop i := by
  rw [ByteArray.data_extract, Array.toList_extract]
  simp [List.extract_eq_take_drop, List.drop_take]
theorem extract_drop (s : ByteArray) (i : Nat) : s.extract i s.size = toB (s.data.toList.drop i) := bytes_ext (by rw [extract_data, data_toB, List.take_of_length_le (by rw [size_data]; omega)])
theorem extract_take (s : ByteArray) (j : Nat) : s.extract 0 j = toB (s.data.toList.take j) := bytes_ext (by rw [extract_data, data_toB, List.drop_zero])
theorem cutp_yes (s : ByteArray) (c : UInt8) (t : List UInt8) (h : s.data.toList = c :: t) : strings_CutPrefix.f s ⟨#[c]⟩ = some (toB t, true) := by
  have hs : s.size = t.length + 1 := by rw [← size_data, h]; simp
  have h1 : (⟨#[c]⟩ : ByteArray).size = 1 := rfl
  unfold strings_CutPrefix.f stringslite_CutPrefix.f stringslite_HasPrefix.f
  rw [h1, if_pos (by omega), if_pos (by omega), if_pos (by omega)]
  rw [show ((1 : Nat) : Int).toNat = 1 from rfl, extract_take, toB_toList, extract_drop, h, show (⟨#[c]⟩ : ByteArray).toList = [c] from by rw [bytes_toList]]
  simp only [List.take_succ_cons, List.take_zero, beq_self_eq_true, Option.bind_some, if_true]
  rw [if_pos (by omega), if_pos (by omega)]; rfl
theorem cutp_no (s : ByteArray) (c : UInt8) (h : s.data.toList.head? ≠ some c) : strings_CutPrefix.f s ⟨#[c]⟩ = some (s, false) := by
  have h1 : (⟨#[c]⟩ : ByteArray).size = 1 := rfl
  unfold strings_CutPrefix.f stringslite_CutPrefix.f stringslite_HasPrefix.f
  rw [h1]
  by_cases hs : 1 ≤ s.size
  · rw [if_pos (by omega), if_pos (by omega), if_pos (by omega)]
    rw [show ((1 : Nat) : Int).toNat = 1 from rfl, extract_take, toB_toList, show (⟨#[c]⟩ : ByteArray).toList = [c] from by rw [bytes_toList]]
    have : (s.data.toList.take 1 == [c]) = false := by
      cases hl : s.data.toList with
      | nil => rfl
      | cons a t =>
        rw [hl] at h
        simpa using h
    rw [this]; rfl
  · rw [if_neg (by omega)]; rfl
theorem sufx (s : ByteArray) (hs4 : s.size ≤ 4000000000) : strings_HasSuffix.f s ⟨#[10]⟩ = some (endsL s.data.toList) := by
  have h1 : (⟨#[10]⟩ : ByteArray).size = 1 := rfl
  unfold strings_HasSuffix.f stringslite_HasSuffix.f
  rw [h1]
  by_cases hs : 1 ≤ s.size
  · have e1 : wrap64 ((s.size : Int) - ((1 : Nat) : Int)) = (s.size : Int) - 1 := wrap_in (by omega) (by omega)
    rw [if_pos (by omega), e1, if_pos (by omega), if_pos (by omega)]
    rw [show ((s.size : Int) - 1).toNat = s.size - 1 by omega, extract_drop, toB_toList, show (⟨#[10]⟩ : ByteArray).toList = [10] from by rw [bytes_toList]]
    unfold endsL
    rcases List.eq_nil_or_concat s.data.toList with h | ⟨u, z, h⟩
    · exfalso; have := size_data s; rw [h] at this; simp at this; omega
    · rw [List.concat_eq_append] at h
      have hz : s.size - 1 = u.length := by have := size_data s; rw [h] at this; simp at this; omega
      rw [h, hz, List.drop_append_of_le_length (Nat.le_refl _), List.drop_length, List.getLast?_concat]
      simp only [List.nil_append, Option.bind_some]
      by_cases e : z = 10 <;> simp [e]
  · rw [if_neg (by omega)]
    have : s.data.toList = [] := List.length_eq_zero_iff.1 (by rw [size_data]; omega)
    rw [this]; rfl
theorem sufx_lite (s : ByteArray) (hs4 : s.size ≤ 4000000000) : stringslite_HasSuffix.f s ⟨#[10]⟩ = some (endsL s.data.toList) := by
  have h := sufx s hs4
  unfold strings_HasSuffix.f at h
  cases hx : stringslite_HasSuffix.f s ⟨#[10]⟩ with
  | none => rw [hx] at h; cases h
  | some v => rw [hx] at h; exact h
def trimL (l : List UInt8) : List UInt8 := if endsL l = true then l.dropLast else l
theorem trims (s : ByteArray) (hs4 : s.size ≤ 4000000000) : strings_TrimSuffix.f s ⟨#[10]⟩ = some (toB (trimL s.data.toList)) := by
  have h1 : (⟨#[10]⟩ : ByteArray).size = 1 := rfl
  unfold strings_TrimSuffix.f stringslite_TrimSuffix.f
  rw [sufx_lite s hs4]
  unfold trimL
  cases he : endsL s.data.toList with
  | false => simp [toB_data]
  | true =>
    have hs : 1 ≤ s.size := by
      by_cases h : 1 ≤ s.size
      · exact h
      · exfalso
        have : s.data.toList = [] := List.length_eq_zero_iff.1 (by rw [size_data]; omega)
        rw [this] at he; simp [endsL] at he
    have e1 : wrap64 ((s.size : Int) - ((1 : Nat) : Int)) = (s.size : Int) - 1 := wrap_in (by omega) (by omega)
    simp only [Option.bind_some, if_true]
    rw [h1, e1, if_pos (by omega), if_pos (by omega), extract_take, show ((s.size : Int) - 1).toNat = s.size - 1 by omega, List.dropLast_eq_take, size_data]; rfl
def markL (c : UInt8) (fl : Bool) (lb : List UInt8) (n : Nat) : List UInt8 := List.replicate n c ++ ((if fl = true then [33] else []) ++ ((if lb.isEmpty = true then [] else 32 :: lb) ++ [10]))
theorem lineB_markL (k : Int) (fl : Bool) (lb : ByteArray) (w : Int) : lineB k fl lb w = toB (markL (UInt8.ofNat k.toNat) fl lb.data.toList w.toNat) := by
  unfold lineB markL; rw [bytes_toList]
def unblank : List UInt8 → List UInt8
  | [] => []
  | d :: lb => if d = 32 then lb else []
def flagged : List UInt8 → Bool × List UInt8
  | [] => (false, [])
  | d :: t => if d = 33 then (true, t) else (false, d :: t)
def candA (rest : List UInt8) : Bool × List UInt8 := ((flagged rest).1, unblank (trimL (flagged rest).2))
def tailM (fl : Bool) (lb : List UInt8) : List UInt8 := (if fl = true then [33] else []) ++ ((if lb.isEmpty = true then [] else 32 :: lb) ++ [10])
theorem trimL_snoc (l : List UInt8) : trimL (l ++ [10]) = l := by
  unfold trimL endsL; rw [List.getLast?_concat]; simp
def blankL (lb : List UInt8) : List UInt8 := (if lb.isEmpty = true then [] else 32 :: lb) ++ [10]
theorem labA (lb : List UInt8) : unblank (trimL (blankL lb)) = lb := by
  unfold blankL
  rw [trimL_snoc]
  cases lb with
  | nil => rfl
  | cons a t => rfl
theorem flagged_tail (fl : Bool) (lb : List UInt8) : flagged (tailM fl lb) = (fl, blankL lb) := by
  cases fl with
  | true => rfl
  | false =>
    cases lb with
    | nil => rfl
    | cons a t => rfl
theorem candA_tail (fl : Bool) (lb : List UInt8) : candA (tailM fl lb) = (fl, lb) := by unfold candA; rw [flagged_tail, labA]
def readS (c : UInt8) (cand : Bool × List UInt8) (s : List UInt8) (n : Nat) : Int × Bool × ByteArray × Bool × Int :=
  if mayB (c.toNat : Int) cand.1 (toB cand.2) = true ∧ markL c cand.1 cand.2 n = s then ((c.toNat : Int), cand.1, toB cand.2, true, 0) else (0, false, ⟨#[]⟩, false, 6)
theorem readS_pos {c : UInt8} {fl : Bool} {lb : List UInt8} {s : List UInt8} {n : Nat} (h : mayB (c.toNat : Int) fl (toB lb) = true) (h2 : markL c fl lb n = s) : readS c (fl, lb) s n = ((c.toNat : Int), fl, toB lb, true, 0) := if_pos ⟨h, h2⟩
theorem readS_neg {c : UInt8} {fl : Bool} {lb : List UInt8} {s : List UInt8} {n : Nat} (h : ¬ (mayB (c.toNat : Int) fl (toB lb) = true ∧ markL c fl lb n = s)) : readS c (fl, lb) s n = (0, false, ⟨#[]⟩, false, 6) := if_neg h
theorem run_prefix (c : UInt8) (t : List UInt8) (n : Nat) (h : n ≤ runL (c :: t)) (hn : 1 ≤ n) : isSign c = true ∧ c :: t = List.replicate n c ++ (c :: t).drop n := by
  unfold runL at h
  simp only at h
  by_cases hs : isSign c = true
  · rw [if_pos hs] at h
    refine ⟨hs, ?_⟩
    have h1 := cut_snoc c (c :: t)
    have h2 : n ≤ ((c :: t).takeWhile (· == c)).length := by omega
    have h3 : (c :: t).take n = List.replicate n c := by
      apply List.eq_replicate_iff.2
      refine ⟨by rw [List.length_take]; have := (List.takeWhile_sublist (l := c :: t) (· == c)).length_le; omega, fun x hx => ?_⟩
      have h4 : (c :: t).take n = ((c :: t).takeWhile (· == c)).take n := by
        have := List.takeWhile_append_dropWhile (p := (· == c)) (l := c :: t)
        rw [← this, List.take_append_of_le_length h2, this]
      rw [h4] at hx
      have h5 := List.all_eq_true.1 (List.all_takeWhile (l := c :: t) (p := (· == c))) x (List.mem_of_mem_take hx)
      simpa using h5
    rw [← h3, List.take_append_drop]
  · rw [if_neg hs] at h; omega
theorem sign_lt (c : UInt8) (h : isSign c = true) : c.toNat < 128 := by
  unfold isSign at h
  simp only [Bool.or_eq_true, beq_iff_eq] at h
  rcases h with ((h | h) | h) | h <;> subst h <;> decide
theorem mark_line (c : UInt8) (fl : Bool) (lb : List UInt8) (w : Int) (hc : c.toNat < 128) (w0 : 0 ≤ w) (w1 : w ≤ 1073741824) (hl : lb.length ≤ 4000000000) :
    mark_Marker_line.f (c.toNat : Int) fl (toB lb) w = some (toB (markL c fl lb w.toNat)) := by
  unfold mark_Marker_line.f
  rw [if_pos ⟨by omega, by omega, w0, w1, by rw [size_toB]; exact hl⟩, lineB_markL, data_toB, Int.toNat_natCast]
  simp
theorem mark_may (c : UInt8) (fl : Bool) (lb : ByteArray) (hc : c.toNat < 128) : mark_Marker_may.f (c.toNat : Int) fl lb = some (mayB (c.toNat : Int) fl lb) := by
  unfold mark_Marker_may.f; rw [if_pos ⟨by omega, by omega⟩]
theorem trimL_le (l : List UInt8) : (trimL l).length ≤ l.length := by
  unfold trimL; split
  · rw [List.length_dropLast]; omega
  · exact Nat.le_refl _
def readA (s : ByteArray) (w : Int) : Int × Bool × ByteArray × Bool × Int :=
  if 1 ≤ w ∧ w ≤ 1073741824 then (if runI s < w then (0, false, ⟨#[]⟩, false, 0) else match s.data.toList with
    | [] => (0, false, ⟨#[]⟩, false, 0)
    | c :: t => readS c (candA ((c :: t).drop w.toNat)) (c :: t) w.toNat) else (0, false, ⟨#[]⟩, false, 4)
theorem ev_mark_read (s : ByteArray) (w : Int) (hs : s.size ≤ 4000000000) : Ev (fun k => mark_Read.f k s w) (readA s w) := by
  unfold mark_Read.f mark_wide.f readA
  by_cases h1 : w ≥ 1
  · rw [if_pos h1]
    by_cases h2 : w ≤ 1073741824
    · rw [decide_eq_true h2, if_pos ⟨h1, h2⟩]
      refine Ev.bind (Ev.const rfl) (Ev.pos rfl (Ev.bind (Ev.const (lines_run s hs)) ?_))
      by_cases h3 : runI s < w
      · rw [if_pos h3]; exact Ev.pos h3 (Ev.val rfl)
      · rw [if_neg h3]
        refine Ev.neg h3 ?_
        cases hl : s.data.toList with
        | nil =>
          exfalso
          have := runI_le s; have := size_data s; rw [hl] at this; simp at this; omega
        | cons c t =>
          have hr : w.toNat ≤ runL (c :: t) := by unfold runI at h3; rw [hl] at h3; omega
          obtain ⟨hsg, hrep⟩ := run_prefix c t w.toNat hr (by omega)
          have hc := sign_lt c hsg
          have hsz := runI_le s
          have hb : bt s 0 = (c.toNat : Int) := bytes_bt s 0 [] t c hl rfl
          have hlen : (c :: t).length ≤ 4000000000 := by rw [← hl, size_data]; exact hs
          show Ev _ (readS c (candA ((c :: t).drop w.toNat)) (c :: t) w.toNat)
          refine Ev.pos (by omega) (Ev.pos (by omega) (Ev.pos (by omega) ?_))
          rw [extract_drop, hl, hb]
          generalize hrest : (c :: t).drop w.toNat = rest at hrep ⊢
          have hrl : rest.length ≤ 4000000000 := by rw [← hrest, List.length_drop]; omega
          have fin : ∀ (fl : Bool) (lb : List UInt8), lb.length ≤ 4000000000 → Ev (fun k => mark_Read.j0 k s w (c.toNat : Int) fl (toB lb)) (readS c (fl, lb) (c :: t) w.toNat) := by
            intro fl lb hlb
            refine Ev.succ ?_
            simp only [mark_Read.j0]
            refine Ev.bind (Ev.const (mark_may c fl (toB lb) hc)) ?_
            by_cases hm : mayB (c.toNat : Int) fl (toB lb) = true
            · refine Ev.pos hm (Ev.bind (Ev.const (mark_line c fl lb w hc (by omega) h2 hlb)) ?_)
              rw [toB_toList, bytes_toList s, hl]
              by_cases he : markL c fl lb w.toNat = c :: t
              · rw [readS_pos hm he]; exact Ev.pos he (Ev.val rfl)
              · rw [readS_neg (fun h => he h.2)]; exact Ev.neg he (Ev.val rfl)
            · rw [readS_neg (fun h => hm h.1)]; exact Ev.neg hm (Ev.val rfl)
          have fin2 : ∀ (fl : Bool) (t' : List UInt8), t'.length ≤ 4000000000 → Ev (fun k => (strings_TrimSuffix.f (toB t') ⟨#[10]⟩).bind fun t359 => (strings_CutPrefix.f t359 (⟨#[32]⟩ : ByteArray)).bind fun bt360 => (if bt360.2 = true then (mark_Read.j0 k s w (c.toNat : Int) fl bt360.1) else (mark_Read.j0 k s w (c.toNat : Int) fl (⟨#[]⟩ : ByteArray))))
              (readS c (fl, unblank (trimL t')) (c :: t) w.toNat) := by
            intro fl t' ht'
            refine Ev.bind (Ev.const (trims (toB t') (by rw [size_toB]; exact ht'))) ?_
            rw [data_toB]
            have htl := trimL_le t'
            cases htr : trimL t' with
            | nil =>
              refine Ev.bind (Ev.const (cutp_no _ 32 (by rw [data_toB]; simp))) (Ev.neg (by simp) ?_)
              exact fin fl [] (by simp)
            | cons d lb =>
              rw [htr] at htl
              by_cases hd : d = 32
              · subst hd
                refine Ev.bind (Ev.const (cutp_yes _ 32 lb (by rw [data_toB]))) (Ev.pos rfl ?_)
                exact fin fl lb (by simp at htl; omega)
              · refine Ev.bind (Ev.const (cutp_no _ 32 (by rw [data_toB]; simpa using hd))) (Ev.neg (by simp) ?_)
                rw [show unblank (d :: lb) = [] from if_neg hd]
                exact fin fl [] (by simp)
          by_cases hb2 : ∃ t', rest = 33 :: t'
          · obtain ⟨t', rfl⟩ := hb2
            refine Ev.bind (Ev.const (cutp_yes _ 33 t' (by rw [data_toB]))) ?_
            exact fin2 true t' (by simp at hrl; omega)
          · refine Ev.bind (Ev.const (cutp_no _ 33 (by rw [data_toB]; intro e; cases rest with | nil => simp at e | cons d t' => simp at e; exact hb2 ⟨t', by rw [e]⟩))) ?_
            have hfl : flagged rest = (false, rest) := by
              cases rest with
              | nil => rfl
              | cons d t' => exact if_neg (fun e => hb2 ⟨t', by rw [e]⟩)
            rw [show candA rest = (false, unblank (trimL rest)) by unfold candA; rw [hfl]]
            exact fin2 false rest hrl
    · rw [decide_eq_false h2, if_neg (fun h => h2 h.2)]
      exact Ev.bind (Ev.const rfl) (Ev.neg (by simp) (Ev.val rfl))
  · rw [if_neg h1, if_neg (fun h => h1 h.1)]
    exact Ev.bind (Ev.const rfl) (Ev.neg (by simp) (Ev.val rfl))
end Go.Proofs.Ytfiamddinkokbaa.F
end

section
set_option linter.unusedVariables false
set_option linter.unusedSimpArgs false
namespace Go.Proofs.Ytfiamddinkokbaa.F
open Go.RowKit Go.Proofs.YtfiamddinkokbaaW.PrintWords Go.Proofs.YtfiamddinkokbaaW.PrintLast Go.Proofs.YtfiamddinkokbaaW.PrintMore
set_option linter.unusedVariables false
set_option linter.unusedSimpArgs false
theorem plain_in (a : ByteArray) (hs : a.size ≤ 4000000000) : ∀ (rest done : List UInt8) (i : Int), a.data.toList = done ++ rest → i = done.length → Ev (fun k => tripartiteref07_plain.l0 k a i) (!decide ((10 : UInt8) ∈ rest))
  | [], done, i, hl, ei => by
    have hsz : a.size = done.length := by rw [← size_data, hl]; simp
    refine Ev.succ ?_
    simp only [tripartiteref07_plain.l0]
    exact Ev.neg (by omega) (Ev.val rfl)
  | c :: rest, done, i, hl, ei => by
    have hsz : a.size = done.length + (rest.length + 1) := by rw [← size_data, hl]; simp
    have hw : wrap64 (i + 1) = i + 1 := wrap_in (by omega) (by omega)
    have hb : bt a i = (c.toNat : Int) := bytes_bt a i done rest c hl ei
    refine Ev.succ ?_
    simp only [tripartiteref07_plain.l0, hw, hb]
    refine Ev.pos (by omega) (Ev.pos (by omega) ?_)
    by_cases hc : (c.toNat : Int) = 10
    · refine Ev.pos hc (Ev.val ?_)
      have : c = 10 := byte_eq (n := 10) (by decide) hc
      subst this; simp
    · refine Ev.neg hc ((plain_in a hs rest (done ++ [c]) (i + 1) (by rw [hl]; simp) (by simp; omega)).cast ?_)
      have : (10 : UInt8) ≠ c := fun e => byte_ne (n := 10) (by decide) hc e.symm
      simp [this]
theorem ev_plain (a : ByteArray) (hs : a.size ≤ 4000000000) : Ev (fun k => tripartiteref07_plain.f k a) (!lineless a) := by
  rw [lineless_iff]
  exact plain_in a hs a.data.toList [] 0 rfl rfl
theorem lineless_nil : lineless (⟨#[]⟩ : ByteArray) = false := by rw [lineless_iff]; rfl
theorem ev_Plain3 (a b c : ByteArray) (ha : a.size ≤ 4000000000) (hb : b.size ≤ 4000000000) (hc : c.size ≤ 4000000000) (h : Bool) (x1 x2 x3 x4 : ByteArray) (y : Bool) :
    Ev (fun k => tripartiteref07_Plain.f k a b c h x1 x2 x3 x4 y) (!lineless a && (!lineless b && !lineless c)) := by
  unfold tripartiteref07_Plain.f
  refine Ev.bind (ev_plain a ha) ?_
  by_cases h1 : (!lineless a) = true
  · refine Ev.pos h1 (Ev.bind (ev_plain b hb) ?_)
    rw [h1]
    by_cases h2 : (!lineless b) = true
    · rw [h2]; exact Ev.pos rfl (Ev.bind (ev_plain c hc) (Ev.val (by simp)))
    · rw [Bool.not_eq_true] at h2; rw [h2]; exact Ev.neg (by simp) (Ev.val rfl)
  · rw [Bool.not_eq_true] at h1; rw [h1]; exact Ev.neg (by simp) (Ev.val rfl)
theorem ev_ref_may (c : Int) (fl : Bool) (lb : ByteArray) (hs : lb.size ≤ 4000000000) : Ev (fun k => tripartiteref08_may.f k c fl lb) (mayB c fl lb) := by
  have z : (⟨#[]⟩ : ByteArray).size ≤ 4000000000 := by decide
  have hp := ev_Plain3 lb ⟨#[]⟩ ⟨#[]⟩ hs z z false ⟨#[]⟩ ⟨#[]⟩ ⟨#[]⟩ ⟨#[]⟩ false
  rw [lineless_nil] at hp
  unfold tripartiteref08_may.f mayB
  by_cases h1 : c = 60
  · refine Ev.pos h1 ?_
    cases fl with
    | true => exact Ev.pos rfl (Ev.val (by subst h1; simp))
    | false =>
      refine Ev.neg (by simp) (Ev.neg (by omega) (Ev.bind hp (Ev.val ?_)))
      subst h1; simp [signI]
  · refine Ev.neg h1 ?_
    by_cases h2 : c = 124
    · refine Ev.pos h2 (Ev.neg (by omega) (Ev.bind hp (Ev.val ?_)))
      subst h2; simp [signI]
    · refine Ev.neg h2 ?_
      by_cases h3 : c = 61
      · refine Ev.pos h3 ?_
        subst h3
        by_cases he : lb.toList = ([] : List UInt8)
        · refine Ev.neg (by simpa using he) (Ev.bind hp (Ev.val ?_))
          simp [signI, he]
        · refine Ev.pos he (Ev.val ?_)
          have : lb.toList.isEmpty = false := by
            cases hx : lb.toList with
            | nil => exact absurd hx he
            | cons a t => rfl
          simp [this]
      · refine Ev.neg h3 ?_
        by_cases h4 : c = 62
        · refine Ev.pos h4 (Ev.bind hp (Ev.val ?_))
          subst h4; simp [signI]
        · refine Ev.neg h4 (Ev.val ?_)
          simp [signI, h1, h2, h3, h4]
theorem strOf_one (c : UInt8) : strOfNums [(c.toNat : Int)] = toB [c] := by
  refine bytes_ext ?_
  rw [data_toB]
  simp [strOfNums]
theorem repeat_in (c : UInt8) (n : Nat) (hn : n ≤ 4000000000) : ∀ (d m : Nat), m + d = n → Ev (fun k => tripartiteref08_repeat.l0 k (c.toNat : Int) (n : Int) (toB (List.replicate m c)) (m : Int)) (toB (List.replicate n c))
  | 0, m, h => by
    refine Ev.succ ?_
    simp only [tripartiteref08_repeat.l0]
    exact Ev.neg (by omega) (Ev.val (by rw [show m = n by omega]))
  | d + 1, m, h => by
    have hw : wrap64 ((m : Int) + 1) = ((m + 1 : Nat) : Int) := by rw [wrap_in (by omega) (by omega)]; omega
    refine Ev.succ ?_
    simp only [tripartiteref08_repeat.l0, hw]
    refine Ev.pos (by omega) (Ev.bind (Ev.const rfl) ?_)
    rw [strOf_one]
    refine Ev.pos (by rw [size_toB, size_toB, List.length_replicate, List.length_singleton]; omega) ?_
    have : toB (List.replicate m c) ++ toB [c] = toB (List.replicate (m + 1) c) := bytes_ext (by rw [ByteArray.data_append, Array.toList_append, data_toB, data_toB, data_toB, List.replicate_succ'])
    rw [this]
    exact repeat_in c n hn d (m + 1) (by omega)
theorem ev_ref_repeat (c : UInt8) (w : Int) (w0 : 0 ≤ w) (hn : w ≤ 4000000000) : Ev (fun k => tripartiteref08_repeat.f k (c.toNat : Int) w) (toB (List.replicate w.toNat c)) := by
  have := repeat_in c w.toNat (by omega) w.toNat 0 (by omega)
  rw [show ((w.toNat : Nat) : Int) = w by omega] at this
  exact this
theorem app_toB (x y : List UInt8) : toB x ++ toB y = toB (x ++ y) := bytes_ext (by rw [ByteArray.data_append, Array.toList_append, data_toB, data_toB, data_toB])
theorem ev_ref_line (c : UInt8) (fl : Bool) (lb : ByteArray) (w : Int) (w0 : 0 ≤ w) (w1 : w ≤ 1073741824) (hl : lb.size ≤ 4000000000) : Ev (fun k => tripartiteref08_line.f k (c.toNat : Int) fl lb w) (toB (markL c fl lb.data.toList w.toNat)) := by
  unfold tripartiteref08_line.f
  refine Ev.bind (ev_ref_repeat c w w0 (by omega)) ?_
  have e33 : (⟨#[33]⟩ : ByteArray) = toB [33] := rfl
  have e32 : (⟨#[32]⟩ : ByteArray) = toB [32] := rfl
  have e10 : (⟨#[10]⟩ : ByteArray) = toB [10] := rfl
  have hlb : lb = toB lb.data.toList := (toB_data lb).symm
  have hsz : lb.data.toList.length = lb.size := size_data lb
  have hr : w.toNat ≤ 1073741824 := by omega
  rw [e33, e32, e10]
  cases fl with
  | true =>
    refine Ev.pos rfl (Ev.pos (by rw [size_toB, List.length_replicate]; omega) ?_)
    by_cases he : lb.toList = ([] : List UInt8)
    · refine Ev.pos he (Ev.pos (by rw [app_toB, size_toB, List.length_append, List.length_replicate, List.length_singleton]; omega) (Ev.val ?_))
      rw [app_toB, app_toB]; unfold markL; rw [← bytes_toList, he]; simp
    · refine Ev.neg he (Ev.pos (by rw [app_toB, size_toB, List.length_append, List.length_replicate, List.length_singleton]; omega) (Ev.pos ?_ (Ev.pos ?_ (Ev.val ?_))))
      · rw [app_toB, app_toB, size_toB]; simp only [List.length_append, List.length_replicate, List.length_singleton]; omega
      · rw [hlb, app_toB, app_toB, app_toB, size_toB]; simp only [List.length_append, List.length_replicate, List.length_singleton]; omega
      · have hne : lb.data.toList.isEmpty = false := by
          rw [← bytes_toList]
          cases hx : lb.toList with
          | nil => exact absurd hx he
          | cons a t => rfl
        rw [hlb, app_toB, app_toB, app_toB, app_toB]; unfold markL; rw [data_toB, hne]; simp
  | false =>
    refine Ev.neg (by simp) ?_
    by_cases he : lb.toList = ([] : List UInt8)
    · refine Ev.pos he (Ev.pos (by rw [size_toB, List.length_replicate]; omega) (Ev.val ?_))
      rw [app_toB]; unfold markL; rw [← bytes_toList, he]; simp
    · refine Ev.neg he (Ev.pos (by rw [size_toB, List.length_replicate]; omega) (Ev.pos ?_ (Ev.pos ?_ (Ev.val ?_))))
      · rw [app_toB, size_toB]; simp only [List.length_append, List.length_replicate, List.length_singleton]; omega
      · rw [hlb, app_toB, app_toB, size_toB]; simp only [List.length_append, List.length_replicate, List.length_singleton]; omega
      · have hne : lb.data.toList.isEmpty = false := by
          rw [← bytes_toList]
          cases hx : lb.toList with
          | nil => exact absurd hx he
          | cons a t => rfl
        rw [hlb, app_toB, app_toB, app_toB]; unfold markL; rw [data_toB, hne]; simp
end Go.Proofs.Ytfiamddinkokbaa.F
end

section
set_option linter.unusedVariables false
set_option linter.unusedSimpArgs false
namespace Go.Proofs.Ytfiamddinkokbaa.F
open Go.RowKit Go.Proofs.YtfiamddinkokbaaW.PrintWords Go.Proofs.YtfiamddinkokbaaW.PrintLast Go.Proofs.YtfiamddinkokbaaW.PrintMore
set_option linter.unusedVariables false
set_option linter.unusedSimpArgs false
theorem ev_told08 : Ev (fun k => tripartitelaw08_told.f k) true := Ev.of_mono (fun k => tripartitelaw08_told.mono k) (k := 60) (by decide +kernel)
def narrowI (w : Int) : Int := if w > 300 ∧ w ≤ 1073741824 then Int.tmod w 300 + 1 else w
theorem ev_narrow (w : Int) : tripartitelaw08_narrow.f w = some (narrowI w) := by
  unfold tripartitelaw08_narrow.f narrowI
  by_cases h1 : w > 300
  · rw [if_pos h1]
    by_cases h2 : w ≤ 1073741824
    · have e : Int.tmod w 300 = w % 300 := Int.tmod_eq_emod_of_nonneg (by omega)
      rw [if_pos h2, if_pos ⟨h1, h2⟩, e, wrap_in (by omega) (by omega)]
    · rw [if_neg h2, if_neg (fun h => h2 h.2)]
  · rw [if_neg h1, if_neg (fun h => h1 h.1)]
end Go.Proofs.Ytfiamddinkokbaa.F
namespace Go.Proofs.Ytfiamddinkokbaa
end Go.Proofs.Ytfiamddinkokbaa
end

section
set_option linter.unusedVariables false
set_option linter.unusedSimpArgs false
namespace Go.Proofs.Ytfiamddinkokbaa.F
open Go.RowKit Go.Proofs.YtfiamddinkokbaaW.PrintWords Go.Proofs.YtfiamddinkokbaaW.PrintLast Go.Proofs.YtfiamddinkokbaaW.PrintMore
set_option linter.unusedVariables false
set_option linter.unusedSimpArgs false
theorem cut_rep (c : UInt8) (t : List UInt8) (ht : cutL c t = t) : ∀ n, cutL c (List.replicate n c ++ t) = t
  | 0 => ht
  | n + 1 => by
    rw [List.replicate_succ]
    show (c :: (List.replicate n c ++ t)).dropWhile (fun x => x == c) = t
    rw [List.dropWhile_cons_of_pos (by simp)]
    exact cut_rep c t ht n
theorem tail_cut (c : UInt8) (hs : isSign c = true) (fl : Bool) (lb : List UInt8) : cutL c (tailM fl lb) = tailM fl lb := by
  unfold isSign at hs
  simp only [Bool.or_eq_true, beq_iff_eq] at hs
  rcases hs with ((h | h) | h) | h <;> subst h <;> cases fl <;> cases lb <;> rfl
theorem run_mark (c : UInt8) (hs : isSign c = true) (fl : Bool) (lb : List UInt8) (n : Nat) (hn : 1 ≤ n) : runL (markL c fl lb n) = n := by
  obtain ⟨m, rfl⟩ : ∃ m, n = m + 1 := ⟨n - 1, by omega⟩
  have e0 : markL c fl lb (m + 1) = c :: (List.replicate m c ++ tailM fl lb) := rfl
  rw [e0]; unfold runL; simp only
  rw [if_pos hs]
  have e : cutL c (c :: (List.replicate m c ++ tailM fl lb)) = tailM fl lb := cut_rep c _ (tail_cut c hs fl lb) (m + 1)
  rw [e]; simp only [List.length_cons, List.length_append, List.length_replicate]; omega
theorem may_isSign (c : UInt8) (fl : Bool) (lb : ByteArray) (h : mayB (c.toNat : Int) fl lb = true) : isSign c = true := by
  unfold mayB at h
  simp only [Bool.and_eq_true] at h
  have h1 := h.1
  by_cases hc : c.toNat < 128
  · have := sign_small ⟨c.toNat, hc⟩
    simp only [UInt8.ofNat_toNat] at this
    rw [this]; exact h1
  · exfalso
    unfold signI at h1
    simp only [Bool.or_eq_true, beq_iff_eq] at h1
    omega
theorem read_back (c : UInt8) (fl : Bool) (lb : List UInt8) (w v : Int) (h1 : 1 ≤ w) (hm : mayB (c.toNat : Int) fl (toB lb) = true) (v1 : 1 ≤ v) (v2 : v ≤ 1073741824) :
    readA (toB (markL c fl lb w.toNat)) v = (if v < w then (0, false, ⟨#[]⟩, false, 6) else if v > w then (0, false, ⟨#[]⟩, false, 0) else ((c.toNat : Int), fl, toB lb, true, 0)) := by
  have hs := may_isSign c fl _ hm
  have hrun : runI (toB (markL c fl lb w.toNat)) = w := by
    unfold runI; rw [data_toB, run_mark c hs fl lb w.toNat (by omega)]; omega
  unfold readA
  rw [if_pos ⟨v1, v2⟩, hrun, data_toB]
  by_cases hv : w < v
  · rw [if_pos hv, if_neg (by omega), if_pos (by omega)]
  · rw [if_neg hv]
    obtain ⟨m, hm'⟩ : ∃ m, w.toNat = m + 1 := ⟨w.toNat - 1, by omega⟩
    have e0 : markL c fl lb w.toNat = c :: (List.replicate m c ++ tailM fl lb) := by rw [hm']; rfl
    rw [e0]
    show readS c (candA ((c :: (List.replicate m c ++ tailM fl lb)).drop v.toNat)) (c :: (List.replicate m c ++ tailM fl lb)) v.toNat = _
    rw [← e0]
    by_cases he : v = w
    · subst he
      have : (markL c fl lb v.toNat).drop v.toNat = tailM fl lb := by
        show (List.replicate v.toNat c ++ tailM fl lb).drop v.toNat = _
        rw [List.drop_append_of_le_length (by simp), List.drop_of_length_le (by simp), List.nil_append]
      rw [this, candA_tail, readS_pos hm rfl, if_neg (by omega), if_neg (by omega)]
    · rw [if_pos (by omega)]
      have key : ∀ x : Bool × List UInt8, readS c x (markL c fl lb w.toNat) v.toNat = (0, false, ⟨#[]⟩, false, 6) := by
        intro x
        refine if_neg ?_
        rintro ⟨_, h⟩
        have a := run_mark c hs x.1 x.2 v.toNat (by omega)
        rw [h, run_mark c hs fl lb w.toNat (by omega)] at a
        omega
      exact key _
def lineV (c : UInt8) (fl : Bool) (lb : List UInt8) (w : Int) : ByteArray × Int := if 1 ≤ w ∧ w ≤ 1073741824 then (if mayB (c.toNat : Int) fl (toB lb) = true then (toB (markL c fl lb w.toNat), 0) else (⟨#[]⟩, 6)) else (⟨#[]⟩, 4)
theorem mark_Line_eq (c : UInt8) (fl : Bool) (lb : List UInt8) (w : Int) (hc : c.toNat < 128) (hl : lb.length ≤ 4000000000) : mark_Line.f (c.toNat : Int) fl (toB lb) w = some (lineV c fl lb w) := by
  unfold mark_Line.f mark_wide.f lineV
  by_cases h1 : w ≥ 1
  · rw [if_pos h1]
    by_cases h2 : w ≤ 1073741824
    · rw [decide_eq_true h2, if_pos ⟨h1, h2⟩]
      simp only [Option.bind_some, if_true]
      rw [mark_may c fl (toB lb) hc]
      simp only [Option.bind_some]
      by_cases hm : mayB (c.toNat : Int) fl (toB lb) = true
      · rw [if_pos hm, if_pos hm, mark_line c fl lb w hc (by omega) h2 hl]; rfl
      · rw [if_neg hm, if_neg hm]
    · rw [decide_eq_false h2, if_neg (fun h => h2 h.2)]; rfl
  · rw [if_neg h1, if_neg (fun h => h1 h.1)]; rfl
theorem ev_ref_Line (c : UInt8) (fl : Bool) (lb : List UInt8) (w : Int) (hl : lb.length ≤ 4000000000) : Ev (fun k => tripartiteref08_Line.f k (c.toNat : Int) fl (toB lb) w) (lineV c fl lb w) := by
  unfold tripartiteref08_Line.f tripartiteref08_wide.f lineV
  by_cases h1 : w ≥ 1
  · rw [if_pos h1]
    by_cases h2 : w ≤ 1073741824
    · rw [decide_eq_true h2, if_pos ⟨h1, h2⟩]
      refine Ev.bind (Ev.const rfl) (Ev.pos rfl (Ev.bind (ev_ref_may _ _ _ (by rw [size_toB]; exact hl)) ?_))
      by_cases hm : mayB (c.toNat : Int) fl (toB lb) = true
      · rw [if_pos hm]
        refine Ev.pos hm (Ev.bind (ev_ref_line c fl (toB lb) w (by omega) h2 (by rw [size_toB]; exact hl)) (Ev.val ?_))
        rw [data_toB]
      · rw [if_neg hm]; exact Ev.neg hm (Ev.val rfl)
    · rw [decide_eq_false h2, if_neg (fun h => h2 h.2)]
      exact Ev.bind (Ev.const rfl) (Ev.neg (by simp) (Ev.val rfl))
  · rw [if_neg h1, if_neg (fun h => h1 h.1)]
    exact Ev.bind (Ev.const rfl) (Ev.neg (by simp) (Ev.val rfl))
theorem mn_200 (n : Nat) : 0 ≤ mn (n : Int) 200 ∧ mn (n : Int) 200 ≤ n ∧ mn (n : Int) 200 ≤ 200 := by unfold mn; split <;> omega
theorem cut_200 (a : ByteArray) : ∃ lb : List UInt8, a.extract 0 (mn (a.size : Int) 200).toNat = toB lb ∧ lb.length ≤ 200 := by
  have m := mn_200 a.size
  refine ⟨a.data.toList.take (mn (a.size : Int) 200).toNat, extract_take a _, ?_⟩
  rw [List.length_take]; omega
theorem markLines_small (c : UInt8) (fl : Bool) (a : ByteArray) (a1 : Int) (hc : c.toNat < 128) : ∃ k, tripartitelaw08_MarkLines.f k (c.toNat : Int) fl a a1 = some true := by
  refine Ev.get ?_
  have m := mn_200 a.size
  unfold tripartitelaw08_MarkLines.f
  obtain ⟨lb, hlb, hl⟩ := cut_200 a
  rw [hlb]
  refine Ev.pos m.1 (Ev.pos m.2.1 (Ev.bind (Ev.const (ev_narrow a1)) ?_))
  generalize narrowI a1 = w
  refine Ev.bind (Ev.const rfl) (Ev.bind (Ev.const (mark_Line_eq c fl lb w hc (by omega))) (Ev.bind (ev_ref_Line c fl lb w (by omega)) (Ev.bind ev_told08 (Ev.pos rfl (Ev.pos rfl ?_)))))
  rw [show ((lineV c fl lb w).2 != (lineV c fl lb w).2) = false by simp]
  refine Ev.succ ?_
  simp only [tripartitelaw08_MarkLines.j0]
  refine Ev.neg (by simp) ?_
  unfold lineV
  by_cases hw : 1 ≤ w ∧ w ≤ 1073741824
  · rw [if_pos hw]
    by_cases hm : mayB (c.toNat : Int) fl (toB lb) = true
    · rw [if_pos hm]
      refine Ev.pos rfl ?_
      by_cases hz : (markL c fl lb w.toNat).length ≤ 4000000000
      · refine Ev.bind (ev_mark_read _ w (by rw [size_toB]; exact hz)) ?_
        have rb := read_back c fl lb w w hw.1 hm hw.1 hw.2
        rw [if_neg (show ¬ w < w by omega), if_neg (show ¬ w > w by omega)] at rb
        rw [rb]
        refine Ev.pos rfl (Ev.pos rfl (Ev.bind (Ev.const rfl) (Ev.val ?_)))
        simp
      · exfalso; apply hz
        unfold markL
        simp only [List.length_append, List.length_replicate, List.length_singleton]
        cases fl <;> cases lb <;> simp at hl ⊢ <;> omega
    · rw [if_neg hm]; exact Ev.neg (by simp) (Ev.val rfl)
  · rw [if_neg hw]; exact Ev.neg (by simp) (Ev.val rfl)
end Go.Proofs.Ytfiamddinkokbaa.F
end

section
set_option linter.unusedVariables false
set_option linter.unusedSimpArgs false
namespace Go.Proofs.Ytfiamddinkokbaa.F
open Go.RowKit Go.Proofs.YtfiamddinkokbaaW.PrintWords Go.Proofs.YtfiamddinkokbaaW.PrintLast Go.Proofs.YtfiamddinkokbaaW.PrintMore
set_option linter.unusedVariables false
set_option linter.unusedSimpArgs false
theorem mayB_big (c : UInt8) (hc : 128 ≤ c.toNat) (fl : Bool) (lb : ByteArray) : mayB (c.toNat : Int) fl lb = false := by
  unfold mayB signI
  have h1 : ((c.toNat : Int) == 60) = false := by rw [beq_eq_false_iff_ne]; omega
  have h2 : ((c.toNat : Int) == 124) = false := by rw [beq_eq_false_iff_ne]; omega
  have h3 : ((c.toNat : Int) == 61) = false := by rw [beq_eq_false_iff_ne]; omega
  have h4 : ((c.toNat : Int) == 62) = false := by rw [beq_eq_false_iff_ne]; omega
  rw [h1, h2, h3, h4]; rfl
theorem mark_LineG_eq (c : UInt8) (fl : Bool) (lb : List UInt8) (w : Int) (hc : 128 ≤ c.toNat) : mark_LineG.f (c.toNat : Int) fl (toB lb) w = some (lineV c fl lb w) := by
  have h256 : c.toNat < 256 := c.toNat_lt
  unfold mark_LineG.f mark_wide.f lineV
  rw [mayB_big c hc]
  by_cases h1 : w ≥ 1
  · rw [if_pos h1]
    by_cases h2 : w ≤ 1073741824
    · rw [decide_eq_true h2, if_pos ⟨h1, h2⟩]
      unfold mayG.f
      rw [if_pos (show (128 : Int) ≤ (c.toNat : Int) ∧ (c.toNat : Int) < 256 by omega)]
      rfl
    · rw [decide_eq_false h2, if_neg (fun h => h2 h.2)]; rfl
  · rw [if_neg h1, if_neg (fun h => h1 h.1)]; rfl
theorem lineV_big (c : UInt8) (fl : Bool) (lb : List UInt8) (w : Int) (hc : 128 ≤ c.toNat) : (lineV c fl lb w).2 ≠ 0 := by
  unfold lineV
  rw [mayB_big c hc]
  by_cases hw : 1 ≤ w ∧ w ≤ 1073741824
  · rw [if_pos hw]; simp
  · rw [if_neg hw]; simp
theorem markLines_big (c : UInt8) (fl : Bool) (a : ByteArray) (a1 : Int) (hc : 128 ≤ c.toNat) : ∃ k, tripartitelaw08_MarkLinesG.f k (c.toNat : Int) fl a a1 = some true := by
  refine Ev.get ?_
  have m := mn_200 a.size
  unfold tripartitelaw08_MarkLinesG.f
  obtain ⟨lb, hlb, hl⟩ := cut_200 a
  rw [hlb]
  refine Ev.pos m.1 (Ev.pos m.2.1 (Ev.bind (Ev.const (ev_narrow a1)) ?_))
  generalize narrowI a1 = w
  refine Ev.bind (Ev.const rfl) (Ev.bind (Ev.const (mark_LineG_eq c fl lb w hc)) (Ev.bind (ev_ref_Line c fl lb w (by omega)) (Ev.bind ev_told08 (Ev.pos rfl (Ev.pos rfl ?_)))))
  rw [show ((lineV c fl lb w).2 != (lineV c fl lb w).2) = false by simp]
  refine Ev.succ ?_
  simp only [tripartitelaw08_MarkLinesG.j0]
  exact Ev.neg (by simp) (Ev.neg (lineV_big c fl lb w hc) (Ev.val rfl))
theorem markLines_walk (x : Int) (h0 : 0 ≤ x) (h1 : x < 256) (fl : Bool) (a : ByteArray) (a1 : Int) (w : World) (m : Int) (hm : w.cell? ⟨0, 0, none⟩ = some (.int .i64 m)) :
    Calls Try.prog 9 #[.agg #[.int .u8 x, .bool fl, .string a], .int .i64 a1] w fun e w' => e = .returned (.bool true) ∧ Below w.heap.size w w' := by
  obtain ⟨c, rfl⟩ : ∃ c : UInt8, (c.toNat : Int) = x := ⟨UInt8.ofNat x.toNat, by rw [UInt8.toNat_ofNat']; omega⟩
  by_cases hc : c.toNat < 128
  · obtain ⟨k, h⟩ := markLines_small c fl a a1 hc
    exact tripartitelaw08_MarkLines.calls k _ fl a a1 true w h
  · obtain ⟨k, h⟩ := markLines_big c fl a a1 (by omega)
    exact tripartitelaw08_MarkLinesG.calls k _ fl a a1 true w m hm h
end Go.Proofs.Ytfiamddinkokbaa.F
end
