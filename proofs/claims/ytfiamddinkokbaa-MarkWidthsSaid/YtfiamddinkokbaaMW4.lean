/- Texts joined into one file (wip/tools/pack.py): Open, Pure, Pure01, PureLines, PureMark, PureMark2, PureMarkReads, PureMarkLines, PureBig -/
import Derived.Test.YtfiamddinkokbaaMW1
import Derived.SliceStrings
import Derived.SizedLaws
import Derived.Deep.Slices
import Derived.Deep.Fields
import Derived.ChangeSame
import Derived.Lib.SmallJoins
import Derived.Test.YtfiamddinkokbaaMW3
section
set_option linter.unusedVariables false
set_option linter.unusedSimpArgs false
namespace Go.Proofs.Ytfiamddinkokbaa.F
open Go.RowKit Go.Proofs.YtfiamddinkokbaaW.PrintWords Go.ChangeShapes Go.WideShapes Go.Deep Go.Joins
set_option linter.unusedVariables false
set_option linter.unusedSimpArgs false
section
variable {H : Type} {enc : TypeId × Value → H} {P : Program} {W : World} {base : Nat} {spare : Nat → Bool} {held : Bool}
end
section
variable {H : Type} {enc : TypeId × Value → H} {P : Program} {w : World} {base : Nat} {spare : Nat → Bool} {held : Bool}
end
section
variable {H : Type} {enc : TypeId × Value → H} {W : World} {base : Nat} {spare : Nat → Bool} {held : Bool}
end
end Go.Proofs.Ytfiamddinkokbaa.F
end

section
set_option linter.unusedVariables false
set_option linter.unusedSimpArgs false
namespace Go.Proofs.Ytfiamddinkokbaa
open Go.RowKit Go.Proofs.YtfiamddinkokbaaW.PrintWords
set_option linter.unusedVariables false
def Ev {α : Type} (F : Nat → Option α) (v : α) : Prop := ∃ K, ∀ k, K ≤ k → F k = some v
namespace Ev
variable {α β : Type} {F G : Nat → Option α} {H : Nat → α → Option β} {v a : α} {b : β}
theorem get (h : Ev F v) : ∃ k, F k = some v := let ⟨K, hK⟩ := h; ⟨K, hK K (Nat.le_refl K)⟩
theorem val {x : α} (h : x = v) : Ev (fun _ => some x) v := ⟨0, fun _ _ => by rw [h]⟩
theorem const {o : Option α} (h : o = some v) : Ev (fun _ => o) v := ⟨0, fun _ _ => h⟩
theorem of_mono (hm : ∀ k, LeO (F k) (F (k + 1))) {k : Nat} (h : F k = some v) : Ev F v := ⟨k, fun j hj => by
  induction hj with
  | refl => exact h
  | step _ ih => exact hm _ _ ih⟩
theorem succ (h : Ev (fun k => F (k + 1)) v) : Ev F v := let ⟨K, hK⟩ := h; ⟨K + 1, fun k hk => by
  obtain ⟨j, rfl⟩ : ∃ j, k = j + 1 := ⟨k - 1, by omega⟩
  exact hK j (by omega)⟩
theorem pos {c : Prop} [Decidable c] (hc : c) (h : Ev F v) : Ev (fun k => if c then F k else G k) v := by simpa only [if_pos hc] using h
theorem neg {c : Prop} [Decidable c] (hc : ¬ c) (h : Ev G v) : Ev (fun k => if c then F k else G k) v := by simpa only [if_neg hc] using h
theorem bind {F : Nat → Option α} (h : Ev F a) (h' : Ev (fun k => H k a) b) : Ev (fun k => (F k).bind (H k)) b := by
  obtain ⟨K, hK⟩ := h
  obtain ⟨L, hL⟩ := h'
  refine ⟨max K L, fun k hk => ?_⟩
  show (F k).bind (H k) = some b
  rw [hK k (by omega)]
  exact hL k (by omega)
end Ev
theorem wrap_in {n : Int} (h0 : -9223372036854775808 ≤ n) (h1 : n ≤ 9223372036854775807) : wrap64 n = n := by unfold wrap64; omega
theorem size_data (s : ByteArray) : s.data.toList.length = s.size := Array.length_toList
theorem bytes_toList (s : ByteArray) : s.toList = s.data.toList := by
  exact ByteArray.toList_eq s
theorem bytes_bt (s : ByteArray) (i : Int) (xs ys : List UInt8) (c : UInt8) (h : s.data.toList = xs ++ c :: ys) (hi : i = xs.length) : bt s i = (c.toNat : Int) := by
  have hs : xs.length < s.size := by rw [← size_data, h]; simp
  subst hi
  unfold bt
  rw [dif_pos (by simpa using hs)]
  have : s.data.toList[xs.length]? = some c := by rw [h]; simp
  have h2 := getElem?_byte s xs.length hs
  rw [this] at h2
  have h3 : s[xs.length] = c := (Option.some.inj h2).symm
  simp only [Int.toNat_natCast, h3]
theorem size_toB (l : List UInt8) : (toB l).size = l.length := by rw [← size_data, data_toB]
theorem bytes_ext {a b : ByteArray} (h : a.data.toList = b.data.toList) : a = b := by rw [← toB_data a, h, toB_data]
end Go.Proofs.Ytfiamddinkokbaa
end

section
set_option linter.unusedVariables false
set_option linter.unusedSimpArgs false
namespace Go.Proofs.Ytfiamddinkokbaa.F
open Go.RowKit Go.Proofs.YtfiamddinkokbaaW.PrintWords Go.Proofs.YtfiamddinkokbaaW.PrintLast Go.Proofs.YtfiamddinkokbaaW.PrintMore
set_option linter.unusedVariables false
set_option linter.unusedSimpArgs false
def runI (s : ByteArray) : Int := (runL s.data.toList : Nat)
theorem cut_snoc (c : UInt8) : ∀ l : List UInt8, l.length = (l.takeWhile (· == c)).length + (cutL c l).length := by
  intro l
  have := congrArg List.length (List.takeWhile_append_dropWhile (p := fun x => x == c) (l := l))
  rw [List.length_append] at this
  exact this.symm
theorem lines_run (a : ByteArray) (hs : a.size ≤ 4000000000) : lines_Run.f a = some (runI a) := by unfold lines_Run.f; rw [if_pos hs]; rfl
theorem runI_le (s : ByteArray) : runI s ≤ s.size := by unfold runI; have := runL_le s.data.toList; rw [size_data] at this; omega
end Go.Proofs.Ytfiamddinkokbaa.F
end

section
set_option linter.unusedVariables false
set_option linter.unusedSimpArgs false
namespace Go.Proofs.Ytfiamddinkokbaa.F
open Go.RowKit Go.Proofs.YtfiamddinkokbaaW.PrintWords Go.Proofs.YtfiamddinkokbaaW.PrintLast Go.Proofs.YtfiamddinkokbaaW.PrintMore
set_option linter.unusedVariables false
set_option linter.unusedSimpArgs false
def endsL (p : List UInt8) : Bool := p.getLast? == some 10
end Go.Proofs.Ytfiamddinkokbaa.F
end

section
set_option linter.unusedVariables false
set_option linter.unusedSimpArgs false
namespace Go.Proofs.Ytfiamddinkokbaa.F
open Go.RowKit Go.Proofs.YtfiamddinkokbaaW.PrintWords Go.Proofs.YtfiamddinkokbaaW.PrintLast Go.Proofs.YtfiamddinkokbaaW.PrintMore
set_option linter.unusedVariables false
set_option linter.unusedSimpArgs false
theorem toB_toList (l : List UInt8) : (toB l).toList = l := by rw [bytes_toList, data_toB]
theorem extract_data (s : ByteArray) (i j : Nat) : (s.extract i j).data.toList = (s.data.toList.take j).drop i := by
  rw [ByteArray.data_extract, Array.toList_extract]
  simp [List.extract_eq_take_drop, List.drop_take]
theorem extract_drop (s : ByteArray) (i : Nat) : s.extract i s.size = toB (s.data.toList.drop i) := bytes_ext (by rw [extract_data, data_toB, List.take_of_length_le (by rw [size_data]; omega)])
theorem extract_take (s : ByteArray) (j : Nat) : s.extract 0 j = toB (s.data.toList.take j) := bytes_ext (by rw [extract_data, data_toB, List.drop_zero])
theorem cutp_yes (s : ByteArray) (c : UInt8) (t : List UInt8) (h : s.data.toList = c :: t) : strings_CutPrefix.f s ⟨#[c]⟩ = some (toB t, true) := by
  have hs : s.size = t.length + 1 := by rw [← size_data, h]; simp
  have h1 : (⟨#[c]⟩ : ByteArray).size = 1 := rfl
  unfold strings_CutPrefix.f stringslite_CutPrefix.f stringslite_HasPrefix.f
  rw [h1, if_pos (by omega), if_pos (by omega), if_pos (by omega)]
  rw [show ((1 : Nat) : Int).toNat = 1 from rfl, extract_take, toB_toList, extract_drop, h, show (⟨#[c]⟩ : ByteArray).toList = [c] from by rw [bytes_toList]]
  simp only [List.take_succ_cons, List.take_zero, beq_self_eq_true, Option.bind_some, if_true]
  rw [if_pos (by omega), if_pos (by omega)]; rfl
theorem cutp_no (s : ByteArray) (c : UInt8) (h : s.data.toList.head? ≠ some c) : strings_CutPrefix.f s ⟨#[c]⟩ = some (s, false) := by
  have h1 : (⟨#[c]⟩ : ByteArray).size = 1 := rfl
  unfold strings_CutPrefix.f stringslite_CutPrefix.f stringslite_HasPrefix.f
  rw [h1]
  by_cases hs : 1 ≤ s.size
  · rw [if_pos (by omega), if_pos (by omega), if_pos (by omega)]
    rw [show ((1 : Nat) : Int).toNat = 1 from rfl, extract_take, toB_toList, show (⟨#[c]⟩ : ByteArray).toList = [c] from by rw [bytes_toList]]
    have : (s.data.toList.take 1 == [c]) = false := by
      cases hl : s.data.toList with
      | nil => rfl
      | cons a t =>
        rw [hl] at h
        simpa using h
    rw [this]; rfl
  · rw [if_neg (by omega)]; rfl
theorem sufx (s : ByteArray) (hs4 : s.size ≤ 4000000000) : strings_HasSuffix.f s ⟨#[10]⟩ = some (endsL s.data.toList) := by
  have h1 : (⟨#[10]⟩ : ByteArray).size = 1 := rfl
  unfold strings_HasSuffix.f stringslite_HasSuffix.f
  rw [h1]
  by_cases hs : 1 ≤ s.size
  · have e1 : wrap64 ((s.size : Int) - ((1 : Nat) : Int)) = (s.size : Int) - 1 := wrap_in (by omega) (by omega)
    rw [if_pos (by omega), e1, if_pos (by omega), if_pos (by omega)]
    rw [show ((s.size : Int) - 1).toNat = s.size - 1 by omega, extract_drop, toB_toList, show (⟨#[10]⟩ : ByteArray).toList = [10] from by rw [bytes_toList]]
    unfold endsL
    rcases List.eq_nil_or_concat s.data.toList with h | ⟨u, z, h⟩
    · exfalso; have := size_data s; rw [h] at this; simp at this; omega
    · rw [List.concat_eq_append] at h
      have hz : s.size - 1 = u.length := by have := size_data s; rw [h] at this; simp at this; omega
      rw [h, hz, List.drop_append_of_le_length (Nat.le_refl _), List.drop_length, List.getLast?_concat]
      simp only [List.nil_append, Option.bind_some]
      by_cases e : z = 10 <;> simp [e]
  · rw [if_neg (by omega)]
    have : s.data.toList = [] := List.length_eq_zero_iff.1 (by rw [size_data]; omega)
    rw [this]; rfl
theorem sufx_lite (s : ByteArray) (hs4 : s.size ≤ 4000000000) : stringslite_HasSuffix.f s ⟨#[10]⟩ = some (endsL s.data.toList) := by
  have h := sufx s hs4
  unfold strings_HasSuffix.f at h
  cases hx : stringslite_HasSuffix.f s ⟨#[10]⟩ with
  | none => rw [hx] at h; cases h
  | some v => rw [hx] at h; exact h
def trimL (l : List UInt8) : List UInt8 := if endsL l = true then l.dropLast else l
theorem trims (s : ByteArray) (hs4 : s.size ≤ 4000000000) : strings_TrimSuffix.f s ⟨#[10]⟩ = some (toB (trimL s.data.toList)) := by
  have h1 : (⟨#[10]⟩ : ByteArray).size = 1 := rfl
  unfold strings_TrimSuffix.f stringslite_TrimSuffix.f
  rw [sufx_lite s hs4]
  unfold trimL
  cases he : endsL s.data.toList with
  | false => simp [toB_data]
  | true =>
    have hs : 1 ≤ s.size := by
      by_cases h : 1 ≤ s.size
      · exact h
      · exfalso
        have : s.data.toList = [] := List.length_eq_zero_iff.1 (by rw [size_data]; omega)
        rw [this] at he; simp [endsL] at he
    have e1 : wrap64 ((s.size : Int) - ((1 : Nat) : Int)) = (s.size : Int) - 1 := wrap_in (by omega) (by omega)
    simp only [Option.bind_some, if_true]
    rw [h1, e1, if_pos (by omega), if_pos (by omega), extract_take, show ((s.size : Int) - 1).toNat = s.size - 1 by omega, List.dropLast_eq_take, size_data]; rfl
def markL (c : UInt8) (fl : Bool) (lb : List UInt8) (n : Nat) : List UInt8 := List.replicate n c ++ ((if fl = true then [33] else []) ++ ((if lb.isEmpty = true then [] else 32 :: lb) ++ [10]))
theorem lineB_markL (k : Int) (fl : Bool) (lb : ByteArray) (w : Int) : lineB k fl lb w = toB (markL (UInt8.ofNat k.toNat) fl lb.data.toList w.toNat) := by
  unfold lineB markL; rw [bytes_toList]
def unblank : List UInt8 → List UInt8
  | [] => []
  | d :: lb => if d = 32 then lb else []
def flagged : List UInt8 → Bool × List UInt8
  | [] => (false, [])
  | d :: t => if d = 33 then (true, t) else (false, d :: t)
def candA (rest : List UInt8) : Bool × List UInt8 := ((flagged rest).1, unblank (trimL (flagged rest).2))
def tailM (fl : Bool) (lb : List UInt8) : List UInt8 := (if fl = true then [33] else []) ++ ((if lb.isEmpty = true then [] else 32 :: lb) ++ [10])
theorem trimL_snoc (l : List UInt8) : trimL (l ++ [10]) = l := by
  unfold trimL endsL; rw [List.getLast?_concat]; simp
def blankL (lb : List UInt8) : List UInt8 := (if lb.isEmpty = true then [] else 32 :: lb) ++ [10]
theorem labA (lb : List UInt8) : unblank (trimL (blankL lb)) = lb := by
  unfold blankL
  rw [trimL_snoc]
  cases lb with
  | nil => rfl
  | cons a t => rfl
theorem flagged_tail (fl : Bool) (lb : List UInt8) : flagged (tailM fl lb) = (fl, blankL lb) := by
  cases fl with
  | true => rfl
  | false =>
    cases lb with
    | nil => rfl
    | cons a t => rfl
theorem candA_tail (fl : Bool) (lb : List UInt8) : candA (tailM fl lb) = (fl, lb) := by unfold candA; rw [flagged_tail, labA]
def readS (c : UInt8) (cand : Bool × List UInt8) (s : List UInt8) (n : Nat) : Int × Bool × ByteArray × Bool × Int :=
  if mayB (c.toNat : Int) cand.1 (toB cand.2) = true ∧ markL c cand.1 cand.2 n = s then ((c.toNat : Int), cand.1, toB cand.2, true, 0) else (0, false, ⟨#[]⟩, false, 6)
theorem readS_pos {c : UInt8} {fl : Bool} {lb : List UInt8} {s : List UInt8} {n : Nat} (h : mayB (c.toNat : Int) fl (toB lb) = true) (h2 : markL c fl lb n = s) : readS c (fl, lb) s n = ((c.toNat : Int), fl, toB lb, true, 0) := if_pos ⟨h, h2⟩
theorem readS_neg {c : UInt8} {fl : Bool} {lb : List UInt8} {s : List UInt8} {n : Nat} (h : ¬ (mayB (c.toNat : Int) fl (toB lb) = true ∧ markL c fl lb n = s)) : readS c (fl, lb) s n = (0, false, ⟨#[]⟩, false, 6) := if_neg h
theorem run_prefix (c : UInt8) (t : List UInt8) (n : Nat) (h : n ≤ runL (c :: t)) (hn : 1 ≤ n) : isSign c = true ∧ c :: t = List.replicate n c ++ (c :: t).drop n := by
  unfold runL at h
  simp only at h
  by_cases hs : isSign c = true
  · rw [if_pos hs] at h
    refine ⟨hs, ?_⟩
    have h1 := cut_snoc c (c :: t)
    have h2 : n ≤ ((c :: t).takeWhile (· == c)).length := by omega
    have h3 : (c :: t).take n = List.replicate n c := by
      apply List.eq_replicate_iff.2
      refine ⟨by rw [List.length_take]; have := (List.takeWhile_sublist (l := c :: t) (· == c)).length_le; omega, fun x hx => ?_⟩
      have h4 : (c :: t).take n = ((c :: t).takeWhile (· == c)).take n := by
        have := List.takeWhile_append_dropWhile (p := (· == c)) (l := c :: t)
        rw [← this, List.take_append_of_le_length h2, this]
      rw [h4] at hx
      have h5 := List.all_eq_true.1 (List.all_takeWhile (l := c :: t) (p := (· == c))) x (List.mem_of_mem_take hx)
      simpa using h5
    rw [← h3, List.take_append_drop]
  · rw [if_neg hs] at h; omega
theorem sign_lt (c : UInt8) (h : isSign c = true) : c.toNat < 128 := by
  unfold isSign at h
  simp only [Bool.or_eq_true, beq_iff_eq] at h
  rcases h with ((h | h) | h) | h <;> subst h <;> decide
theorem mark_line (c : UInt8) (fl : Bool) (lb : List UInt8) (w : Int) (hc : c.toNat < 128) (w0 : 0 ≤ w) (w1 : w ≤ 1073741824) (hl : lb.length ≤ 4000000000) :
    mark_Marker_line.f (c.toNat : Int) fl (toB lb) w = some (toB (markL c fl lb w.toNat)) := by
  unfold mark_Marker_line.f
  rw [if_pos ⟨by omega, by omega, w0, w1, by rw [size_toB]; exact hl⟩, lineB_markL, data_toB, Int.toNat_natCast]
  simp
theorem mark_may (c : UInt8) (fl : Bool) (lb : ByteArray) (hc : c.toNat < 128) : mark_Marker_may.f (c.toNat : Int) fl lb = some (mayB (c.toNat : Int) fl lb) := by
  unfold mark_Marker_may.f; rw [if_pos ⟨by omega, by omega⟩]
theorem trimL_le (l : List UInt8) : (trimL l).length ≤ l.length := by
  unfold trimL; split
  · rw [List.length_dropLast]; omega
  · exact Nat.le_refl _
def readA (s : ByteArray) (w : Int) : Int × Bool × ByteArray × Bool × Int :=
  if 1 ≤ w ∧ w ≤ 1073741824 then (if runI s < w then (0, false, ⟨#[]⟩, false, 0) else match s.data.toList with
    | [] => (0, false, ⟨#[]⟩, false, 0)
    | c :: t => readS c (candA ((c :: t).drop w.toNat)) (c :: t) w.toNat) else (0, false, ⟨#[]⟩, false, 4)
theorem ev_mark_read (s : ByteArray) (w : Int) (hs : s.size ≤ 4000000000) : Ev (fun k => mark_Read.f k s w) (readA s w) := by
  unfold mark_Read.f mark_wide.f readA
  by_cases h1 : w ≥ 1
  · rw [if_pos h1]
    by_cases h2 : w ≤ 1073741824
    · rw [decide_eq_true h2, if_pos ⟨h1, h2⟩]
      refine Ev.bind (Ev.const rfl) (Ev.pos rfl (Ev.bind (Ev.const (lines_run s hs)) ?_))
      by_cases h3 : runI s < w
      · rw [if_pos h3]; exact Ev.pos h3 (Ev.val rfl)
      · rw [if_neg h3]
        refine Ev.neg h3 ?_
        cases hl : s.data.toList with
        | nil =>
          exfalso
          have := runI_le s; have := size_data s; rw [hl] at this; simp at this; omega
        | cons c t =>
          have hr : w.toNat ≤ runL (c :: t) := by unfold runI at h3; rw [hl] at h3; omega
          obtain ⟨hsg, hrep⟩ := run_prefix c t w.toNat hr (by omega)
          have hc := sign_lt c hsg
          have hsz := runI_le s
          have hb : bt s 0 = (c.toNat : Int) := bytes_bt s 0 [] t c hl rfl
          have hlen : (c :: t).length ≤ 4000000000 := by rw [← hl, size_data]; exact hs
          show Ev _ (readS c (candA ((c :: t).drop w.toNat)) (c :: t) w.toNat)
          refine Ev.pos (by omega) (Ev.pos (by omega) (Ev.pos (by omega) ?_))
          rw [extract_drop, hl, hb]
          generalize hrest : (c :: t).drop w.toNat = rest at hrep ⊢
          have hrl : rest.length ≤ 4000000000 := by rw [← hrest, List.length_drop]; omega
          have fin : ∀ (fl : Bool) (lb : List UInt8), lb.length ≤ 4000000000 → Ev (fun k => mark_Read.j0 k s w (c.toNat : Int) fl (toB lb)) (readS c (fl, lb) (c :: t) w.toNat) := by
            intro fl lb hlb
            refine Ev.succ ?_
            simp only [mark_Read.j0]
            refine Ev.bind (Ev.const (mark_may c fl (toB lb) hc)) ?_
            by_cases hm : mayB (c.toNat : Int) fl (toB lb) = true
            · refine Ev.pos hm (Ev.bind (Ev.const (mark_line c fl lb w hc (by omega) h2 hlb)) ?_)
              rw [toB_toList, bytes_toList s, hl]
              by_cases he : markL c fl lb w.toNat = c :: t
              · rw [readS_pos hm he]; exact Ev.pos he (Ev.val rfl)
              · rw [readS_neg (fun h => he h.2)]; exact Ev.neg he (Ev.val rfl)
            · rw [readS_neg (fun h => hm h.1)]; exact Ev.neg hm (Ev.val rfl)
          have fin2 : ∀ (fl : Bool) (t' : List UInt8), t'.length ≤ 4000000000 → Ev (fun k => (strings_TrimSuffix.f (toB t') ⟨#[10]⟩).bind fun t359 => (strings_CutPrefix.f t359 (⟨#[32]⟩ : ByteArray)).bind fun bt360 => (if bt360.2 = true then (mark_Read.j0 k s w (c.toNat : Int) fl bt360.1) else (mark_Read.j0 k s w (c.toNat : Int) fl (⟨#[]⟩ : ByteArray))))
              (readS c (fl, unblank (trimL t')) (c :: t) w.toNat) := by
            intro fl t' ht'
            refine Ev.bind (Ev.const (trims (toB t') (by rw [size_toB]; exact ht'))) ?_
            rw [data_toB]
            have htl := trimL_le t'
            cases htr : trimL t' with
            | nil =>
              refine Ev.bind (Ev.const (cutp_no _ 32 (by rw [data_toB]; simp))) (Ev.neg (by simp) ?_)
              exact fin fl [] (by simp)
            | cons d lb =>
              rw [htr] at htl
              by_cases hd : d = 32
              · subst hd
                refine Ev.bind (Ev.const (cutp_yes _ 32 lb (by rw [data_toB]))) (Ev.pos rfl ?_)
                exact fin fl lb (by simp at htl; omega)
              · refine Ev.bind (Ev.const (cutp_no _ 32 (by rw [data_toB]; simpa using hd))) (Ev.neg (by simp) ?_)
                rw [show unblank (d :: lb) = [] from if_neg hd]
                exact fin fl [] (by simp)
          by_cases hb2 : ∃ t', rest = 33 :: t'
          · obtain ⟨t', rfl⟩ := hb2
            refine Ev.bind (Ev.const (cutp_yes _ 33 t' (by rw [data_toB]))) ?_
            exact fin2 true t' (by simp at hrl; omega)
          · refine Ev.bind (Ev.const (cutp_no _ 33 (by rw [data_toB]; intro e; cases rest with | nil => simp at e | cons d t' => simp at e; exact hb2 ⟨t', by rw [e]⟩))) ?_
            have hfl : flagged rest = (false, rest) := by
              cases rest with
              | nil => rfl
              | cons d t' => exact if_neg (fun e => hb2 ⟨t', by rw [e]⟩)
            rw [show candA rest = (false, unblank (trimL rest)) by unfold candA; rw [hfl]]
            exact fin2 false rest hrl
    · rw [decide_eq_false h2, if_neg (fun h => h2 h.2)]
      exact Ev.bind (Ev.const rfl) (Ev.neg (by simp) (Ev.val rfl))
  · rw [if_neg h1, if_neg (fun h => h1 h.1)]
    exact Ev.bind (Ev.const rfl) (Ev.neg (by simp) (Ev.val rfl))
end Go.Proofs.Ytfiamddinkokbaa.F
end

section
set_option linter.unusedVariables false
set_option linter.unusedSimpArgs false
namespace Go.Proofs.Ytfiamddinkokbaa.F
open Go.RowKit Go.Proofs.YtfiamddinkokbaaW.PrintWords Go.Proofs.YtfiamddinkokbaaW.PrintLast Go.Proofs.YtfiamddinkokbaaW.PrintMore
set_option linter.unusedVariables false
set_option linter.unusedSimpArgs false
end Go.Proofs.Ytfiamddinkokbaa.F
end

section
set_option linter.unusedVariables false
set_option linter.unusedSimpArgs false
namespace Go.Proofs.Ytfiamddinkokbaa.F
open Go.RowKit Go.Proofs.YtfiamddinkokbaaW.PrintWords Go.Proofs.YtfiamddinkokbaaW.PrintLast Go.Proofs.YtfiamddinkokbaaW.PrintMore
set_option linter.unusedVariables false
set_option linter.unusedSimpArgs false
theorem ev_told08 : Ev (fun k => tripartitelaw08_told.f k) true := Ev.of_mono (fun k => tripartitelaw08_told.mono k) (k := 60) (by decide +kernel)
end Go.Proofs.Ytfiamddinkokbaa.F
namespace Go.Proofs.Ytfiamddinkokbaa
end Go.Proofs.Ytfiamddinkokbaa
end

section
set_option linter.unusedVariables false
set_option linter.unusedSimpArgs false
namespace Go.Proofs.Ytfiamddinkokbaa.F
open Go.RowKit Go.Proofs.YtfiamddinkokbaaW.PrintWords Go.Proofs.YtfiamddinkokbaaW.PrintLast Go.Proofs.YtfiamddinkokbaaW.PrintMore
set_option linter.unusedVariables false
set_option linter.unusedSimpArgs false
theorem cut_rep (c : UInt8) (t : List UInt8) (ht : cutL c t = t) : ∀ n, cutL c (List.replicate n c ++ t) = t
  | 0 => ht
  | n + 1 => by
    rw [List.replicate_succ]
    show (c :: (List.replicate n c ++ t)).dropWhile (fun x => x == c) = t
    rw [List.dropWhile_cons_of_pos (by simp)]
    exact cut_rep c t ht n
theorem tail_cut (c : UInt8) (hs : isSign c = true) (fl : Bool) (lb : List UInt8) : cutL c (tailM fl lb) = tailM fl lb := by
  unfold isSign at hs
  simp only [Bool.or_eq_true, beq_iff_eq] at hs
  rcases hs with ((h | h) | h) | h <;> subst h <;> cases fl <;> cases lb <;> rfl
theorem run_mark (c : UInt8) (hs : isSign c = true) (fl : Bool) (lb : List UInt8) (n : Nat) (hn : 1 ≤ n) : runL (markL c fl lb n) = n := by
  obtain ⟨m, rfl⟩ : ∃ m, n = m + 1 := ⟨n - 1, by omega⟩
  have e0 : markL c fl lb (m + 1) = c :: (List.replicate m c ++ tailM fl lb) := rfl
  rw [e0]; unfold runL; simp only
  rw [if_pos hs]
  have e : cutL c (c :: (List.replicate m c ++ tailM fl lb)) = tailM fl lb := cut_rep c _ (tail_cut c hs fl lb) (m + 1)
  rw [e]; simp only [List.length_cons, List.length_append, List.length_replicate]; omega
theorem may_isSign (c : UInt8) (fl : Bool) (lb : ByteArray) (h : mayB (c.toNat : Int) fl lb = true) : isSign c = true := by
  unfold mayB at h
  simp only [Bool.and_eq_true] at h
  have h1 := h.1
  by_cases hc : c.toNat < 128
  · have := sign_small ⟨c.toNat, hc⟩
    simp only [UInt8.ofNat_toNat] at this
    rw [this]; exact h1
  · exfalso
    unfold signI at h1
    simp only [Bool.or_eq_true, beq_iff_eq] at h1
    omega
theorem read_back (c : UInt8) (fl : Bool) (lb : List UInt8) (w v : Int) (h1 : 1 ≤ w) (hm : mayB (c.toNat : Int) fl (toB lb) = true) (v1 : 1 ≤ v) (v2 : v ≤ 1073741824) :
    readA (toB (markL c fl lb w.toNat)) v = (if v < w then (0, false, ⟨#[]⟩, false, 6) else if v > w then (0, false, ⟨#[]⟩, false, 0) else ((c.toNat : Int), fl, toB lb, true, 0)) := by
  have hs := may_isSign c fl _ hm
  have hrun : runI (toB (markL c fl lb w.toNat)) = w := by
    unfold runI; rw [data_toB, run_mark c hs fl lb w.toNat (by omega)]; omega
  unfold readA
  rw [if_pos ⟨v1, v2⟩, hrun, data_toB]
  by_cases hv : w < v
  · rw [if_pos hv, if_neg (by omega), if_pos (by omega)]
  · rw [if_neg hv]
    obtain ⟨m, hm'⟩ : ∃ m, w.toNat = m + 1 := ⟨w.toNat - 1, by omega⟩
    have e0 : markL c fl lb w.toNat = c :: (List.replicate m c ++ tailM fl lb) := by rw [hm']; rfl
    rw [e0]
    show readS c (candA ((c :: (List.replicate m c ++ tailM fl lb)).drop v.toNat)) (c :: (List.replicate m c ++ tailM fl lb)) v.toNat = _
    rw [← e0]
    by_cases he : v = w
    · subst he
      have : (markL c fl lb v.toNat).drop v.toNat = tailM fl lb := by
        show (List.replicate v.toNat c ++ tailM fl lb).drop v.toNat = _
        rw [List.drop_append_of_le_length (by simp), List.drop_of_length_le (by simp), List.nil_append]
      rw [this, candA_tail, readS_pos hm rfl, if_neg (by omega), if_neg (by omega)]
    · rw [if_pos (by omega)]
      have key : ∀ x : Bool × List UInt8, readS c x (markL c fl lb w.toNat) v.toNat = (0, false, ⟨#[]⟩, false, 6) := by
        intro x
        refine if_neg ?_
        rintro ⟨_, h⟩
        have a := run_mark c hs x.1 x.2 v.toNat (by omega)
        rw [h, run_mark c hs fl lb w.toNat (by omega)] at a
        omega
      exact key _
def lineV (c : UInt8) (fl : Bool) (lb : List UInt8) (w : Int) : ByteArray × Int := if 1 ≤ w ∧ w ≤ 1073741824 then (if mayB (c.toNat : Int) fl (toB lb) = true then (toB (markL c fl lb w.toNat), 0) else (⟨#[]⟩, 6)) else (⟨#[]⟩, 4)
theorem mark_Line_eq (c : UInt8) (fl : Bool) (lb : List UInt8) (w : Int) (hc : c.toNat < 128) (hl : lb.length ≤ 4000000000) : mark_Line.f (c.toNat : Int) fl (toB lb) w = some (lineV c fl lb w) := by
  unfold mark_Line.f mark_wide.f lineV
  by_cases h1 : w ≥ 1
  · rw [if_pos h1]
    by_cases h2 : w ≤ 1073741824
    · rw [decide_eq_true h2, if_pos ⟨h1, h2⟩]
      simp only [Option.bind_some, if_true]
      rw [mark_may c fl (toB lb) hc]
      simp only [Option.bind_some]
      by_cases hm : mayB (c.toNat : Int) fl (toB lb) = true
      · rw [if_pos hm, if_pos hm, mark_line c fl lb w hc (by omega) h2 hl]; rfl
      · rw [if_neg hm, if_neg hm]
    · rw [decide_eq_false h2, if_neg (fun h => h2 h.2)]; rfl
  · rw [if_neg h1, if_neg (fun h => h1 h.1)]; rfl
theorem mn_200 (n : Nat) : 0 ≤ mn (n : Int) 200 ∧ mn (n : Int) 200 ≤ n ∧ mn (n : Int) 200 ≤ 200 := by unfold mn; split <;> omega
theorem cut_200 (a : ByteArray) : ∃ lb : List UInt8, a.extract 0 (mn (a.size : Int) 200).toNat = toB lb ∧ lb.length ≤ 200 := by
  have m := mn_200 a.size
  refine ⟨a.data.toList.take (mn (a.size : Int) 200).toNat, extract_take a _, ?_⟩
  rw [List.length_take]; omega
theorem wid_in (x : Int) (n : Int) (hn : 1 ≤ n) (h80 : n ≤ 80) : 1 ≤ wrap64 (wrap64 (Int.tmod (IntKind.u64.wrap x) n) + 1) ∧ wrap64 (wrap64 (Int.tmod (IntKind.u64.wrap x) n) + 1) ≤ n := by
  have hx : 0 ≤ IntKind.u64.wrap x := by show 0 ≤ x % 18446744073709551616; omega
  generalize IntKind.u64.wrap x = y at hx
  have e : Int.tmod y n = y % n := Int.tmod_eq_emod_of_nonneg hx
  have l := Int.emod_lt_of_pos y (show 0 < n by omega)
  have g := Int.emod_nonneg y (show n ≠ 0 by omega)
  rw [e]
  generalize y % n = z at l g
  have w1 : wrap64 z = z := wrap_in (by omega) (by omega)
  rw [w1]
  have w2 : wrap64 (z + 1) = z + 1 := wrap_in (by omega) (by omega)
  rw [w2]
  omega
theorem markWidths_small (c : UInt8) (fl : Bool) (a : ByteArray) (a1 a2 : Int) (hc : c.toNat < 128) : ∃ k, tripartitelaw08_MarkWidths.f k (c.toNat : Int) fl a a1 a2 = some true := by
  refine Ev.get ?_
  have m := mn_200 a.size
  unfold tripartitelaw08_MarkWidths.f
  obtain ⟨lb, hlb, hl⟩ := cut_200 a
  rw [hlb]
  refine Ev.pos m.1 (Ev.pos m.2.1 (Ev.bind (Ev.const rfl) ?_))
  have hw := wid_in a1 40 (by omega) (by omega)
  have hv := wid_in a2 80 (by omega) (by omega)
  generalize wrap64 (wrap64 (Int.tmod (IntKind.u64.wrap a1) 40) + 1) = w at hw ⊢
  generalize wrap64 (wrap64 (Int.tmod (IntKind.u64.wrap a2) 80) + 1) = v at hv ⊢
  refine Ev.bind (Ev.const (mark_Line_eq c fl lb w hc (by omega))) (Ev.bind ev_told08 (Ev.pos rfl ?_))
  refine Ev.succ ?_
  simp only [tripartitelaw08_MarkWidths.j0]
  unfold lineV
  rw [if_pos ⟨hw.1, by omega⟩]
  by_cases hm : mayB (c.toNat : Int) fl (toB lb) = true
  · rw [if_pos hm]
    have hz : (markL c fl lb w.toNat).length ≤ 4000000000 := by
      unfold markL
      simp only [List.length_append, List.length_replicate, List.length_singleton]
      cases fl <;> cases lb <;> simp at hl ⊢ <;> omega
    refine Ev.neg (by simp) (Ev.bind (ev_mark_read _ v (by rw [size_toB]; exact hz)) ?_)
    have rb := read_back c fl lb w v hw.1 hm hv.1 (by omega)
    by_cases c1 : v < w
    · rw [if_pos c1] at rb; rw [rb]; exact Ev.pos c1 (Ev.neg (by simp) (Ev.val rfl))
    · rw [if_neg c1] at rb
      by_cases c2 : v > w
      · rw [if_pos c2] at rb; rw [rb]; exact Ev.neg c1 (Ev.pos c2 (Ev.neg (by simp) (Ev.val rfl)))
      · rw [if_neg c2] at rb; rw [rb]; exact Ev.neg c1 (Ev.neg c2 (Ev.pos rfl (Ev.val rfl)))
  · rw [if_neg hm]
    exact Ev.pos (by simp) (Ev.bind ev_told08 (Ev.val rfl))
end Go.Proofs.Ytfiamddinkokbaa.F
end

section
set_option linter.unusedVariables false
set_option linter.unusedSimpArgs false
namespace Go.Proofs.Ytfiamddinkokbaa.F
open Go.RowKit Go.Proofs.YtfiamddinkokbaaW.PrintWords Go.Proofs.YtfiamddinkokbaaW.PrintLast Go.Proofs.YtfiamddinkokbaaW.PrintMore
set_option linter.unusedVariables false
set_option linter.unusedSimpArgs false
theorem mayB_big (c : UInt8) (hc : 128 ≤ c.toNat) (fl : Bool) (lb : ByteArray) : mayB (c.toNat : Int) fl lb = false := by
  unfold mayB signI
  have h1 : ((c.toNat : Int) == 60) = false := by rw [beq_eq_false_iff_ne]; omega
  have h2 : ((c.toNat : Int) == 124) = false := by rw [beq_eq_false_iff_ne]; omega
  have h3 : ((c.toNat : Int) == 61) = false := by rw [beq_eq_false_iff_ne]; omega
  have h4 : ((c.toNat : Int) == 62) = false := by rw [beq_eq_false_iff_ne]; omega
  rw [h1, h2, h3, h4]; rfl
theorem mark_LineG_eq (c : UInt8) (fl : Bool) (lb : List UInt8) (w : Int) (hc : 128 ≤ c.toNat) : mark_LineG.f (c.toNat : Int) fl (toB lb) w = some (lineV c fl lb w) := by
  have h256 : c.toNat < 256 := c.toNat_lt
  unfold mark_LineG.f mark_wide.f lineV
  rw [mayB_big c hc]
  by_cases h1 : w ≥ 1
  · rw [if_pos h1]
    by_cases h2 : w ≤ 1073741824
    · rw [decide_eq_true h2, if_pos ⟨h1, h2⟩]
      unfold mayG.f
      rw [if_pos (show (128 : Int) ≤ (c.toNat : Int) ∧ (c.toNat : Int) < 256 by omega)]
      rfl
    · rw [decide_eq_false h2, if_neg (fun h => h2 h.2)]; rfl
  · rw [if_neg h1, if_neg (fun h => h1 h.1)]; rfl
theorem lineV_big (c : UInt8) (fl : Bool) (lb : List UInt8) (w : Int) (hc : 128 ≤ c.toNat) : (lineV c fl lb w).2 ≠ 0 := by
  unfold lineV
  rw [mayB_big c hc]
  by_cases hw : 1 ≤ w ∧ w ≤ 1073741824
  · rw [if_pos hw]; simp
  · rw [if_neg hw]; simp
theorem markWidths_big (c : UInt8) (fl : Bool) (a : ByteArray) (a1 a2 : Int) (hc : 128 ≤ c.toNat) : ∃ k, tripartitelaw08_MarkWidthsG.f k (c.toNat : Int) fl a a1 a2 = some true := by
  refine Ev.get ?_
  have m := mn_200 a.size
  unfold tripartitelaw08_MarkWidthsG.f
  obtain ⟨lb, hlb, hl⟩ := cut_200 a
  rw [hlb]
  refine Ev.pos m.1 (Ev.pos m.2.1 (Ev.bind (Ev.const rfl) ?_))
  generalize wrap64 (wrap64 (Int.tmod (IntKind.u64.wrap a1) 40) + 1) = w
  generalize wrap64 (wrap64 (Int.tmod (IntKind.u64.wrap a2) 80) + 1) = v
  refine Ev.bind (Ev.const (mark_LineG_eq c fl lb w hc)) (Ev.bind ev_told08 (Ev.pos rfl ?_))
  refine Ev.succ ?_
  simp only [tripartitelaw08_MarkWidthsG.j0]
  have := lineV_big c fl lb w hc
  exact Ev.pos (by simpa using this) (Ev.bind ev_told08 (Ev.val rfl))
theorem markWidths_walk (x : Int) (h0 : 0 ≤ x) (h1 : x < 256) (fl : Bool) (a : ByteArray) (a1 a2 : Int) (w : World) (m : Int) (hm : w.cell? ⟨0, 0, none⟩ = some (.int .i64 m)) :
    Calls Try.prog 12 #[.agg #[.int .u8 x, .bool fl, .string a], .int .i64 a1, .int .i64 a2] w fun e w' => e = .returned (.bool true) ∧ Below w.heap.size w w' := by
  obtain ⟨c, rfl⟩ : ∃ c : UInt8, (c.toNat : Int) = x := ⟨UInt8.ofNat x.toNat, by rw [UInt8.toNat_ofNat']; omega⟩
  by_cases hc : c.toNat < 128
  · obtain ⟨k, h⟩ := markWidths_small c fl a a1 a2 hc
    exact tripartitelaw08_MarkWidths.calls k _ fl a a1 a2 true w h
  · obtain ⟨k, h⟩ := markWidths_big c fl a a1 a2 (by omega)
    exact tripartitelaw08_MarkWidthsG.calls k _ fl a a1 a2 true w m hm h
end Go.Proofs.Ytfiamddinkokbaa.F
end
