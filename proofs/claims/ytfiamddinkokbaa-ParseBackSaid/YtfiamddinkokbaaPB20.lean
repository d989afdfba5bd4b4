/- Texts joined into one file (wip/tools/pack.py): Fn49, Fn97, Fn54, Fn46, PureMark, PureMark2 -/
import Derived.Test.YtfiamddinkokbaaPB3
import Derived.Test.YtfiamddinkokbaaPB17
import Derived.Test.YtfiamddinkokbaaPB7
import Derived.Test.YtfiamddinkokbaaPB10
import Derived.Test.YtfiamddinkokbaaPB6
import Derived.Test.YtfiamddinkokbaaPB13
import Derived.Test.YtfiamddinkokbaaPB15
import Derived.Test.YtfiamddinkokbaaPB19
set_option linter.unusedVariables false
set_option linter.unusedSimpArgs false
section
namespace Go.Proofs.Ytfiamddinkokbaa.F
open Go.RowKit Go.Proofs.YtfiamddinkokbaaW.PrintWords Go.Proofs.YtfiamddinkokbaaW.PrintLast Go.Proofs.YtfiamddinkokbaaW.PrintMore
attribute [local go_sem] max2_int min2_int max_two min_two max_three min_three max_four min_four




end Go.Proofs.Ytfiamddinkokbaa.F
end

section
namespace Go.Proofs.Ytfiamddinkokbaa.F
open Go.RowKit Go.Proofs.YtfiamddinkokbaaW.PrintWords Go.Proofs.YtfiamddinkokbaaW.PrintLast Go.Proofs.YtfiamddinkokbaaW.PrintMore
theorem lineless_iff (s : ByteArray) : lineless s = decide ((10 : UInt8) ∈ s.data.toList) := by
 unfold lineless
 rcases nl_cases s.data.toList with h | ⟨q, r, h, e⟩
 ·rw [index_no _ h]; simp [h]
 ·rw [e, index_at q r h]; simp
theorem toB_toList (l : List UInt8) : (toB l).toList = l := by rw [bytes_toList, data_toB]
theorem extract_data (s : ByteArray) (i j : Nat) : (s.extract i j).data.toList = (s.data.toList.take j).drop i := by
 rw [ByteArray.data_extract, Array.toList_extract]
 simp [List.extract_eq_take_drop, List.drop_take]
theorem extract_drop (s : ByteArray) (i : Nat) : s.extract i s.size = toB (s.data.toList.drop i) := bytes_ext (by rw [extract_data, data_toB, List.take_of_length_le (by rw [size_data]; omega)])
theorem extract_take (s : ByteArray) (j : Nat) : s.extract 0 j = toB (s.data.toList.take j) := bytes_ext (by rw [extract_data, data_toB, List.drop_zero])
theorem cutp_yes (s : ByteArray) (c : UInt8) (t : List UInt8) (h : s.data.toList = c :: t) : strings_CutPrefix.f s ⟨#[c]⟩ = some (toB t, true) := by
 have hs : s.size = t.length + 1 := by rw [← size_data, h]; simp
 have h1 : (⟨#[c]⟩ : ByteArray).size = 1 := rfl
 unfold strings_CutPrefix.f stringslite_CutPrefix.f stringslite_HasPrefix.f
 rw [h1, if_pos (by omega), if_pos (by omega), if_pos (by omega)]
 rw [show ((1 : Nat) : Int).toNat = 1 from rfl, extract_take, toB_toList, extract_drop, h, show (⟨#[c]⟩ : ByteArray).toList = [c] from by rw [bytes_toList]]
 simp only [List.take_succ_cons, List.take_zero, beq_self_eq_true, Option.bind_some, if_true]
 rw [if_pos (by omega), if_pos (by omega)]; rfl
theorem cutp_no (s : ByteArray) (c : UInt8) (h : s.data.toList.head? ≠ some c) : strings_CutPrefix.f s ⟨#[c]⟩ = some (s, false) := by
 have h1 : (⟨#[c]⟩ : ByteArray).size = 1 := rfl
 unfold strings_CutPrefix.f stringslite_CutPrefix.f stringslite_HasPrefix.f
 rw [h1]
 by_cases hs : 1 ≤ s.size
 ·rw [if_pos (by omega), if_pos (by omega), if_pos (by omega)]
  rw [show ((1 : Nat) : Int).toNat = 1 from rfl, extract_take, toB_toList, show (⟨#[c]⟩ : ByteArray).toList = [c] from by rw [bytes_toList]]
  have : (s.data.toList.take 1 == [c]) = false := by
   cases hl : s.data.toList with
   | nil => rfl
   | cons a t =>
    rw [hl] at h
    simpa using h
  rw [this]; rfl
 ·rw [if_neg (by omega)]; rfl
theorem sufx (s : ByteArray) (hs4 : s.size ≤ 4000000000) : strings_HasSuffix.f s ⟨#[10]⟩ = some (endsL s.data.toList) := by
 have h1 : (⟨#[10]⟩ : ByteArray).size = 1 := rfl
 unfold strings_HasSuffix.f stringslite_HasSuffix.f
 rw [h1]
 by_cases hs : 1 ≤ s.size
 ·have e1 : wrap64 ((s.size : Int) - ((1 : Nat) : Int)) = (s.size : Int) - 1 := wrap_in (by omega) (by omega)
  rw [if_pos (by omega), e1, if_pos (by omega), if_pos (by omega)]
  rw [show ((s.size : Int) - 1).toNat = s.size - 1 by omega, extract_drop, toB_toList, show (⟨#[10]⟩ : ByteArray).toList = [10] from by rw [bytes_toList]]
  unfold endsL
  rcases List.eq_nil_or_concat s.data.toList with h | ⟨u, z, h⟩
  ·exfalso; have := size_data s; rw [h] at this; simp at this; omega
  ·rw [List.concat_eq_append] at h
   have hz : s.size - 1 = u.length := by have := size_data s; rw [h] at this; simp at this; omega
   rw [h, hz, List.drop_append_of_le_length (Nat.le_refl _), List.drop_length, List.getLast?_concat]
   simp only [List.nil_append, Option.bind_some]
   by_cases e : z = 10 <;> simp [e]
 ·rw [if_neg (by omega)]
  have : s.data.toList = [] := List.length_eq_zero_iff.1 (by rw [size_data]; omega)
  rw [this]; rfl
theorem sufx_lite (s : ByteArray) (hs4 : s.size ≤ 4000000000) : stringslite_HasSuffix.f s ⟨#[10]⟩ = some (endsL s.data.toList) := by
 have h := sufx s hs4
 unfold strings_HasSuffix.f at h
 cases hx : stringslite_HasSuffix.f s ⟨#[10]⟩ with
 | none => rw [hx] at h; cases h
 | some v => rw [hx] at h; exact h
def trimL (l : List UInt8) : List UInt8 := if endsL l = true then l.dropLast else l
theorem trims (s : ByteArray) (hs4 : s.size ≤ 4000000000) : strings_TrimSuffix.f s ⟨#[10]⟩ = some (toB (trimL s.data.toList)) := by
 have h1 : (⟨#[10]⟩ : ByteArray).size = 1 := rfl
 unfold strings_TrimSuffix.f stringslite_TrimSuffix.f
 rw [sufx_lite s hs4]
 unfold trimL
 cases he : endsL s.data.toList with
 | false => simp [toB_data]
 | true =>
  have hs : 1 ≤ s.size := by
   by_cases h : 1 ≤ s.size
   ·exact h
   ·exfalso
    have : s.data.toList = [] := List.length_eq_zero_iff.1 (by rw [size_data]; omega)
    rw [this] at he; simp [endsL] at he
  have e1 : wrap64 ((s.size : Int) - ((1 : Nat) : Int)) = (s.size : Int) - 1 := wrap_in (by omega) (by omega)
  simp only [Option.bind_some, if_true]
  rw [h1, e1, if_pos (by omega), if_pos (by omega), extract_take, show ((s.size : Int) - 1).toNat = s.size - 1 by omega, List.dropLast_eq_take, size_data]; rfl
def markL (c : UInt8) (fl : Bool) (lb : List UInt8) (n : Nat) : List UInt8 := List.replicate n c ++ ((if fl = true then [33] else []) ++ ((if lb.isEmpty = true then [] else 32 :: lb) ++ [10]))
theorem lineB_markL (k : Int) (fl : Bool) (lb : ByteArray) (w : Int) : lineB k fl lb w = toB (markL (UInt8.ofNat k.toNat) fl lb.data.toList w.toNat) := by
 unfold lineB markL; rw [bytes_toList]
def unblank : List UInt8 → List UInt8
 | [] => []
 | d :: lb => if d = 32 then lb else []
def flagged : List UInt8 → Bool × List UInt8
 | [] => (false, [])
 | d :: t => if d = 33 then (true, t) else (false, d :: t)
def candA (rest : List UInt8) : Bool × List UInt8 := ((flagged rest).1, unblank (trimL (flagged rest).2))
def tailM (fl : Bool) (lb : List UInt8) : List UInt8 := (if fl = true then [33] else []) ++ ((if lb.isEmpty = true then [] else 32 :: lb) ++ [10])
theorem trimL_snoc (l : List UInt8) : trimL (l ++ [10]) = l := by
 unfold trimL endsL; rw [List.getLast?_concat]; simp
def blankL (lb : List UInt8) : List UInt8 := (if lb.isEmpty = true then [] else 32 :: lb) ++ [10]
theorem labA (lb : List UInt8) : unblank (trimL (blankL lb)) = lb := by
 unfold blankL
 rw [trimL_snoc]
 cases lb with
 | nil => rfl
 | cons a t => rfl
theorem flagged_tail (fl : Bool) (lb : List UInt8) : flagged (tailM fl lb) = (fl, blankL lb) := by
 cases fl with
 | true => rfl
 | false =>
  cases lb with
  | nil => rfl
  | cons a t => rfl
theorem candA_tail (fl : Bool) (lb : List UInt8) : candA (tailM fl lb) = (fl, lb) := by unfold candA; rw [flagged_tail, labA]
def readS (c : UInt8) (cand : Bool × List UInt8) (s : List UInt8) (n : Nat) : Int × Bool × ByteArray × Bool × Int :=
 if mayB (c.toNat : Int) cand.1 (toB cand.2) = true ∧ markL c cand.1 cand.2 n = s then ((c.toNat : Int), cand.1, toB cand.2, true, 0) else (0, false, ⟨#[]⟩, false, 6)
theorem readS_pos {c : UInt8} {fl : Bool} {lb : List UInt8} {s : List UInt8} {n : Nat} (h : mayB (c.toNat : Int) fl (toB lb) = true) (h2 : markL c fl lb n = s) : readS c (fl, lb) s n = ((c.toNat : Int), fl, toB lb, true, 0) := if_pos ⟨h, h2⟩
theorem readS_neg {c : UInt8} {fl : Bool} {lb : List UInt8} {s : List UInt8} {n : Nat} (h : ¬ (mayB (c.toNat : Int) fl (toB lb) = true ∧ markL c fl lb n = s)) : readS c (fl, lb) s n = (0, false, ⟨#[]⟩, false, 6) := if_neg h
theorem run_prefix (c : UInt8) (t : List UInt8) (n : Nat) (h : n ≤ runL (c :: t)) (hn : 1 ≤ n) : isSign c = true ∧ c :: t = List.replicate n c ++ (c :: t).drop n := by
 unfold runL at h
 simp only at h
 by_cases hs : isSign c = true
 ·rw [if_pos hs] at h
  refine ⟨hs, ?_⟩
  have h1 := cut_snoc c (c :: t)
  have h2 : n ≤ ((c :: t).takeWhile (· == c)).length := by omega
  have h3 : (c :: t).take n = List.replicate n c := by
   apply List.eq_replicate_iff.2
   refine ⟨by rw [List.length_take]; have := (List.takeWhile_sublist (l := c :: t) (· == c)).length_le; omega, fun x hx => ?_⟩
   have h4 : (c :: t).take n = ((c :: t).takeWhile (· == c)).take n := by
    have := List.takeWhile_append_dropWhile (p := (· == c)) (l := c :: t)
    rw [← this, List.take_append_of_le_length h2, this]
   rw [h4] at hx
   have h5 := List.all_eq_true.1 (List.all_takeWhile (l := c :: t) (p := (· == c))) x (List.mem_of_mem_take hx)
   simpa using h5
  rw [← h3, List.take_append_drop]
 ·rw [if_neg hs] at h; omega
theorem sign_lt (c : UInt8) (h : isSign c = true) : c.toNat < 128 := by
 unfold isSign at h
 simp only [Bool.or_eq_true, beq_iff_eq] at h
 rcases h with ((h | h) | h) | h <;> subst h <;> decide
theorem mark_line (c : UInt8) (fl : Bool) (lb : List UInt8) (w : Int) (hc : c.toNat < 128) (w0 : 0 ≤ w) (w1 : w ≤ 1073741824) (hl : lb.length ≤ 4000000000) :
  mark_Marker_line.f (c.toNat : Int) fl (toB lb) w = some (toB (markL c fl lb w.toNat)) := by
 unfold mark_Marker_line.f
 rw [if_pos ⟨by omega, by omega, w0, w1, by rw [size_toB]; exact hl⟩, lineB_markL, data_toB, Int.toNat_natCast]
 simp
theorem mark_may (c : UInt8) (fl : Bool) (lb : ByteArray) (hc : c.toNat < 128) : mark_Marker_may.f (c.toNat : Int) fl lb = some (mayB (c.toNat : Int) fl lb) := by
 unfold mark_Marker_may.f; rw [if_pos ⟨by omega, by omega⟩]
theorem trimL_le (l : List UInt8) : (trimL l).length ≤ l.length := by
 unfold trimL; split
 ·rw [List.length_dropLast]; omega
 ·exact Nat.le_refl _
def readA (s : ByteArray) (w : Int) : Int × Bool × ByteArray × Bool × Int :=
 if 1 ≤ w ∧ w ≤ 1073741824 then (if runI s < w then (0, false, ⟨#[]⟩, false, 0) else match s.data.toList with
  | [] => (0, false, ⟨#[]⟩, false, 0)
  | c :: t => readS c (candA ((c :: t).drop w.toNat)) (c :: t) w.toNat) else (0, false, ⟨#[]⟩, false, 4)
theorem ev_mark_read (s : ByteArray) (w : Int) (hs : s.size ≤ 4000000000) : Ev (fun k => mark_Read.f k s w) (readA s w) := by
 unfold mark_Read.f mark_wide.f readA
 by_cases h1 : w ≥ 1
 ·rw [if_pos h1]
  by_cases h2 : w ≤ 1073741824
  ·rw [decide_eq_true h2, if_pos ⟨h1, h2⟩]
   refine Ev.bind (Ev.const rfl) (Ev.pos rfl (Ev.bind (Ev.const (lines_run s hs)) ?_))
   by_cases h3 : runI s < w
   ·rw [if_pos h3]; exact Ev.pos h3 (Ev.val rfl)
   ·rw [if_neg h3]
    refine Ev.neg h3 ?_
    cases hl : s.data.toList with
    | nil =>
     exfalso
     have := runI_le s; have := size_data s; rw [hl] at this; simp at this; omega
    | cons c t =>
     have hr : w.toNat ≤ runL (c :: t) := by unfold runI at h3; rw [hl] at h3; omega
     obtain ⟨hsg, hrep⟩ := run_prefix c t w.toNat hr (by omega)
     have hc := sign_lt c hsg
     have hsz := runI_le s
     have hb : bt s 0 = (c.toNat : Int) := bytes_bt s 0 [] t c hl rfl
     have hlen : (c :: t).length ≤ 4000000000 := by rw [← hl, size_data]; exact hs
     show Ev _ (readS c (candA ((c :: t).drop w.toNat)) (c :: t) w.toNat)
     refine Ev.pos (by omega) (Ev.pos (by omega) (Ev.pos (by omega) ?_))
     rw [extract_drop, hl, hb]
     generalize hrest : (c :: t).drop w.toNat = rest at hrep ⊢
     have hrl : rest.length ≤ 4000000000 := by rw [← hrest, List.length_drop]; omega
     have fin : ∀ (fl : Bool) (lb : List UInt8), lb.length ≤ 4000000000 → Ev (fun k => mark_Read.j0 k s w (c.toNat : Int) fl (toB lb)) (readS c (fl, lb) (c :: t) w.toNat) := by
      intro fl lb hlb
      refine Ev.succ ?_
      simp only [mark_Read.j0]
      refine Ev.bind (Ev.const (mark_may c fl (toB lb) hc)) ?_
      by_cases hm : mayB (c.toNat : Int) fl (toB lb) = true
      ·refine Ev.pos hm (Ev.bind (Ev.const (mark_line c fl lb w hc (by omega) h2 hlb)) ?_)
       rw [toB_toList, bytes_toList s, hl]
       by_cases he : markL c fl lb w.toNat = c :: t
       ·rw [readS_pos hm he]; exact Ev.pos he (Ev.val rfl)
       ·rw [readS_neg (fun h => he h.2)]; exact Ev.neg he (Ev.val rfl)
      ·rw [readS_neg (fun h => hm h.1)]; exact Ev.neg hm (Ev.val rfl)
     have fin2 : ∀ (fl : Bool) (t' : List UInt8), t'.length ≤ 4000000000 → Ev (fun k => (strings_TrimSuffix.f (toB t') ⟨#[10]⟩).bind fun t359 => (strings_CutPrefix.f t359 (⟨#[32]⟩ : ByteArray)).bind fun bt360 => (if bt360.2 = true then (mark_Read.j0 k s w (c.toNat : Int) fl bt360.1) else (mark_Read.j0 k s w (c.toNat : Int) fl (⟨#[]⟩ : ByteArray))))
       (readS c (fl, unblank (trimL t')) (c :: t) w.toNat) := by
      intro fl t' ht'
      refine Ev.bind (Ev.const (trims (toB t') (by rw [size_toB]; exact ht'))) ?_
      rw [data_toB]
      have htl := trimL_le t'
      cases htr : trimL t' with
      | nil =>
       refine Ev.bind (Ev.const (cutp_no _ 32 (by rw [data_toB]; simp))) (Ev.neg (by simp) ?_)
       exact fin fl [] (by simp)
      | cons d lb =>
       rw [htr] at htl
       by_cases hd : d = 32
       ·subst hd
        refine Ev.bind (Ev.const (cutp_yes _ 32 lb (by rw [data_toB]))) (Ev.pos rfl ?_)
        exact fin fl lb (by simp at htl; omega)
       ·refine Ev.bind (Ev.const (cutp_no _ 32 (by rw [data_toB]; simpa using hd))) (Ev.neg (by simp) ?_)
        rw [show unblank (d :: lb) = [] from if_neg hd]
        exact fin fl [] (by simp)
     by_cases hb2 : ∃ t', rest = 33 :: t'
     ·obtain ⟨t', rfl⟩ := hb2
      refine Ev.bind (Ev.const (cutp_yes _ 33 t' (by rw [data_toB]))) ?_
      exact fin2 true t' (by simp at hrl; omega)
     ·refine Ev.bind (Ev.const (cutp_no _ 33 (by rw [data_toB]; intro e; cases rest with | nil => simp at e | cons d t' => simp at e; exact hb2 ⟨t', by rw [e]⟩))) ?_
      have hfl : flagged rest = (false, rest) := by
       cases rest with
       | nil => rfl
       | cons d t' => exact if_neg (fun e => hb2 ⟨t', by rw [e]⟩)
      rw [show candA rest = (false, unblank (trimL rest)) by unfold candA; rw [hfl]]
      exact fin2 false rest hrl
  ·rw [decide_eq_false h2, if_neg (fun h => h2 h.2)]
   exact Ev.bind (Ev.const rfl) (Ev.neg (by simp) (Ev.val rfl))
 ·rw [if_neg h1, if_neg (fun h => h1 h.1)]
  exact Ev.bind (Ev.const rfl) (Ev.neg (by simp) (Ev.val rfl))
theorem plain_in (a : ByteArray) (hs : a.size ≤ 4000000000) : ∀ (rest done : List UInt8) (i : Int), a.data.toList = done ++ rest → i = done.length → Ev (fun k => tripartiteref07_plain.l0 k a i) (!decide ((10 : UInt8) ∈ rest))
 | [], done, i, hl, ei => by
  have hsz : a.size = done.length := by rw [← size_data, hl]; simp
  refine Ev.succ ?_
  simp only [tripartiteref07_plain.l0]
  exact Ev.neg (by omega) (Ev.val rfl)
 | c :: rest, done, i, hl, ei => by
  have hsz : a.size = done.length + (rest.length + 1) := by rw [← size_data, hl]; simp
  have hw : wrap64 (i + 1) = i + 1 := wrap_in (by omega) (by omega)
  have hb : bt a i = (c.toNat : Int) := bytes_bt a i done rest c hl ei
  refine Ev.succ ?_
  simp only [tripartiteref07_plain.l0, hw, hb]
  refine Ev.pos (by omega) (Ev.pos (by omega) ?_)
  by_cases hc : (c.toNat : Int) = 10
  ·refine Ev.pos hc (Ev.val ?_)
   have : c = 10 := byte_eq (n := 10) (by decide) hc
   subst this; simp
  ·refine Ev.neg hc ((plain_in a hs rest (done ++ [c]) (i + 1) (by rw [hl]; simp) (by simp; omega)).cast ?_)
   have : (10 : UInt8) ≠ c := fun e => byte_ne (n := 10) (by decide) hc e.symm
   simp [this]
theorem ev_plain (a : ByteArray) (hs : a.size ≤ 4000000000) : Ev (fun k => tripartiteref07_plain.f k a) (!lineless a) := by
 rw [lineless_iff]
 exact plain_in a hs a.data.toList [] 0 rfl rfl
theorem lineless_nil : lineless (⟨#[]⟩ : ByteArray) = false := by rw [lineless_iff]; rfl
theorem ev_Plain3 (a b c : ByteArray) (ha : a.size ≤ 4000000000) (hb : b.size ≤ 4000000000) (hc : c.size ≤ 4000000000) (h : Bool) (x1 x2 x3 x4 : ByteArray) (y : Bool) :
  Ev (fun k => tripartiteref07_Plain.f k a b c h x1 x2 x3 x4 y) (!lineless a && (!lineless b && !lineless c)) := by
 unfold tripartiteref07_Plain.f
 refine Ev.bind (ev_plain a ha) ?_
 by_cases h1 : (!lineless a) = true
 ·refine Ev.pos h1 (Ev.bind (ev_plain b hb) ?_)
  rw [h1]
  by_cases h2 : (!lineless b) = true
  ·rw [h2]; exact Ev.pos rfl (Ev.bind (ev_plain c hc) (Ev.val (by simp)))
  ·rw [Bool.not_eq_true] at h2; rw [h2]; exact Ev.neg (by simp) (Ev.val rfl)
 ·rw [Bool.not_eq_true] at h1; rw [h1]; exact Ev.neg (by simp) (Ev.val rfl)
theorem strOf_one (c : UInt8) : strOfNums [(c.toNat : Int)] = toB [c] := by
 refine bytes_ext ?_
 rw [data_toB]
 simp [strOfNums]
theorem repeat_in (c : UInt8) (n : Nat) (hn : n ≤ 4000000000) : ∀ (d m : Nat), m + d = n → Ev (fun k => tripartiteref08_repeat.l0 k (c.toNat : Int) (n : Int) (toB (List.replicate m c)) (m : Int)) (toB (List.replicate n c))
 | 0, m, h => by
  refine Ev.succ ?_
  simp only [tripartiteref08_repeat.l0]
  exact Ev.neg (by omega) (Ev.val (by rw [show m = n by omega]))
 | d + 1, m, h => by
  have hw : wrap64 ((m : Int) + 1) = ((m + 1 : Nat) : Int) := by rw [wrap_in (by omega) (by omega)]; omega
  refine Ev.succ ?_
  simp only [tripartiteref08_repeat.l0, hw]
  refine Ev.pos (by omega) (Ev.bind (Ev.const rfl) ?_)
  rw [strOf_one]
  refine Ev.pos (by rw [size_toB, size_toB, List.length_replicate, List.length_singleton]; omega) ?_
  have : toB (List.replicate m c) ++ toB [c] = toB (List.replicate (m + 1) c) := bytes_ext (by rw [ByteArray.data_append, Array.toList_append, data_toB, data_toB, data_toB, List.replicate_succ'])
  rw [this]
  exact repeat_in c n hn d (m + 1) (by omega)
theorem ev_ref_repeat (c : UInt8) (w : Int) (w0 : 0 ≤ w) (hn : w ≤ 4000000000) : Ev (fun k => tripartiteref08_repeat.f k (c.toNat : Int) w) (toB (List.replicate w.toNat c)) := by
 have := repeat_in c w.toNat (by omega) w.toNat 0 (by omega)
 rw [show ((w.toNat : Nat) : Int) = w by omega] at this
 exact this
theorem app_toB (x y : List UInt8) : toB x ++ toB y = toB (x ++ y) := bytes_ext (by rw [ByteArray.data_append, Array.toList_append, data_toB, data_toB, data_toB])
theorem ev_ref_line (c : UInt8) (fl : Bool) (lb : ByteArray) (w : Int) (w0 : 0 ≤ w) (w1 : w ≤ 1073741824) (hl : lb.size ≤ 4000000000) : Ev (fun k => tripartiteref08_line.f k (c.toNat : Int) fl lb w) (toB (markL c fl lb.data.toList w.toNat)) := by
 unfold tripartiteref08_line.f
 refine Ev.bind (ev_ref_repeat c w w0 (by omega)) ?_
 have e33 : (⟨#[33]⟩ : ByteArray) = toB [33] := rfl
 have e32 : (⟨#[32]⟩ : ByteArray) = toB [32] := rfl
 have e10 : (⟨#[10]⟩ : ByteArray) = toB [10] := rfl
 have hlb : lb = toB lb.data.toList := (toB_data lb).symm
 have hsz : lb.data.toList.length = lb.size := size_data lb
 have hr : w.toNat ≤ 1073741824 := by omega
 rw [e33, e32, e10]
 cases fl with
 | true =>
  refine Ev.pos rfl (Ev.pos (by rw [size_toB, List.length_replicate]; omega) ?_)
  by_cases he : lb.toList = ([] : List UInt8)
  ·refine Ev.pos he (Ev.pos (by rw [app_toB, size_toB, List.length_append, List.length_replicate, List.length_singleton]; omega) (Ev.val ?_))
   rw [app_toB, app_toB]; unfold markL; rw [← bytes_toList, he]; simp
  ·refine Ev.neg he (Ev.pos (by rw [app_toB, size_toB, List.length_append, List.length_replicate, List.length_singleton]; omega) (Ev.pos ?_ (Ev.pos ?_ (Ev.val ?_))))
   ·rw [app_toB, app_toB, size_toB]; simp only [List.length_append, List.length_replicate, List.length_singleton]; omega
   ·rw [hlb, app_toB, app_toB, app_toB, size_toB]; simp only [List.length_append, List.length_replicate, List.length_singleton]; omega
   ·have hne : lb.data.toList.isEmpty = false := by
     rw [← bytes_toList]
     cases hx : lb.toList with
     | nil => exact absurd hx he
     | cons a t => rfl
    rw [hlb, app_toB, app_toB, app_toB, app_toB]; unfold markL; rw [data_toB, hne]; simp
 | false =>
  refine Ev.neg (by simp) ?_
  by_cases he : lb.toList = ([] : List UInt8)
  ·refine Ev.pos he (Ev.pos (by rw [size_toB, List.length_replicate]; omega) (Ev.val ?_))
   rw [app_toB]; unfold markL; rw [← bytes_toList, he]; simp
  ·refine Ev.neg he (Ev.pos (by rw [size_toB, List.length_replicate]; omega) (Ev.pos ?_ (Ev.pos ?_ (Ev.val ?_))))
   ·rw [app_toB, size_toB]; simp only [List.length_append, List.length_replicate, List.length_singleton]; omega
   ·rw [hlb, app_toB, app_toB, size_toB]; simp only [List.length_append, List.length_replicate, List.length_singleton]; omega
   ·have hne : lb.data.toList.isEmpty = false := by
     rw [← bytes_toList]
     cases hx : lb.toList with
     | nil => exact absurd hx he
     | cons a t => rfl
    rw [hlb, app_toB, app_toB, app_toB]; unfold markL; rw [data_toB, hne]; simp
end Go.Proofs.Ytfiamddinkokbaa.F
end
