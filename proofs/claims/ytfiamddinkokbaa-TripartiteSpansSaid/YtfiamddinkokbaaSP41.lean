/- Texts joined into one file (wip/tools/pack.py): PureTexts, PureSames, SamesWalk, EqChunk, SidesWalk, PureGen -/
import Derived.Test.YtfiamddinkokbaaSP40
import Derived.Test.YtfiamddinkokbaaSP39
import Derived.Test.YtfiamddinkokbaaSP32
import Derived.Test.YtfiamddinkokbaaSP33
import Derived.Test.YtfiamddinkokbaaSP34
import Derived.Test.YtfiamddinkokbaaSP35
import Derived.Test.YtfiamddinkokbaaSP17
import Derived.Test.YtfiamddinkokbaaSP19
import Derived.BigQuiet
import Derived.Test.YtfiamddinkokbaaSP3
set_option linter.unusedVariables false
set_option linter.unusedSimpArgs false
section
namespace Go.Proofs.Ytfiamddinkokbaa.F
open Go.RowKit Go.Shelf Go.Proofs.YtfiamddinkokbaaW.PrintWords
theorem catB_cons (s : ByteArray) (l : List ByteArray) : (catB (s :: l)).size = s.size + (catB l).size := by
 unfold catB
 rw [size_toB, size_toB, List.flatMap_cons, List.length_append, size_data]
theorem catB_sub {l l' : List ByteArray} (h : l.Sublist l') : (catB l).size ≤ (catB l').size := by
 induction h with
 | slnil => exact Nat.le_refl _
 | cons s _ ih => rw [catB_cons]; omega
 | cons_cons s _ ih => rw [catB_cons, catB_cons]; omega
theorem catB_take_drop (l : List ByteArray) (n : Nat) : (catB (l.take n)).size + (catB (l.drop n)).size = (catB l).size := by
 conv => rhs; rw [← List.take_append_drop n l, catB_append, ByteArray.size_append]
theorem textPs_eq (l : List ByteArray) (hn : l.length ≤ 4000000000) (hs : (catB l).size ≤ 4000000000) : textPs l = some ([textR (catB l)].map to106) := by
 unfold textPs
 rw [lines_join l hn hs]; rfl
theorem hoist_le (st : Int) (l r : List ByteArray) : hoistN st l r + hoistM st l r ≤ l.length ∧ hoistN st l r + hoistM st l r ≤ r.length := ho_le st l r
theorem piece_eq (st fv : Int) (g0 g1 g2 : ByteArray) (k : Int) (b l r : List ByteArray) (nb : b.length ≤ 1000000000) (nl : l.length ≤ 1000000000) (nr : r.length ≤ 1000000000) (sb : (catB b).size ≤ 4000000000) (sl : (catB l).size ≤ 4000000000) (sr : (catB r).size ≤ 4000000000) :
  piecePs st fv g0 g1 g2 k b l r = some ((pieceR st fv g0 g1 g2 k b l r).map to106) := by
 unfold piecePs pieceR
 by_cases k0 : k = 0
 ·rw [if_pos k0, if_pos k0]; exact textPs_eq b (by omega) sb
 rw [if_neg k0, if_neg k0]
 by_cases k1 : k = 1 ∨ k = 3 ∨ (k = 4 ∧ fv = 1)
 ·rw [if_pos k1, if_pos k1]; exact textPs_eq l (by omega) sl
 rw [if_neg k1, if_neg k1]
 by_cases k2 : k = 2 ∨ fv = 3
 ·rw [if_pos k2, if_pos k2]; exact textPs_eq r (by omega) sr
 rw [if_neg k2, if_neg k2]
 unfold confPs
 have s1 := catB_sub (List.take_sublist (hoN st l r) l)
 have s2 := catB_sub (List.drop_sublist (l.length - hoM st l r) l)
 have s3 := catB_sub ((List.drop_sublist (hoN st l r) (l.take (l.length - hoM st l r))).trans (List.take_sublist _ l))
 have s4 := catB_sub ((List.drop_sublist (hoN st l r) (r.take (r.length - hoM st l r))).trans (List.take_sublist _ r))
 rw [if_pos ⟨by omega, by omega⟩, lines_join _ (by rw [List.length_take]; omega) (by omega), Option.bind_some]
 rw [lines_join (midS l (hoN st l r) (hoM st l r)) (by unfold midS; rw [List.length_drop, List.length_take]; omega) (by unfold midS; omega), Option.bind_some]
 rw [lines_join (midS r (hoN st l r) (hoM st l r)) (by unfold midS; rw [List.length_drop, List.length_take]; omega) (by unfold midS; omega), Option.bind_some]
 by_cases hst : st = 0
 ·rw [if_pos hst, Option.bind_some, lines_join _ (by rw [List.length_drop]; omega) (by omega), Option.bind_some]
  subst hst; rfl
 ·rw [if_neg hst, lines_join b (by omega) sb, Option.bind_some, lines_join _ (by rw [List.length_drop]; omega) (by omega), Option.bind_some]
  unfold hunkR hunkP
  rw [if_neg hst, if_neg hst]
  simp only [List.map_cons, List.map_nil, to106]
  rfl
theorem span_sub {α : Type} (s : SSp) (l : List α) : (spanL s l).Sublist l := by
 unfold spanL
 split
 ·exact List.nil_sublist _
 ·exact (List.drop_sublist _ _).trans (List.take_sublist _ _)
theorem ev_docL (B L R : List ByteArray) (st fv : Int) (g0 g1 g2 : ByteArray) (nB : B.length ≤ 1000000000) (nL : L.length ≤ 1000000000) (nR : R.length ≤ 1000000000) (sB : (catB B).size ≤ 4000000000) (sL : (catB L).size ≤ 4000000000) (sR : (catB R).size ≤ 4000000000) :
  ∀ (cs : List SC) (acc : List RP), acc.length + 3 * cs.length ≤ 1000000000 → Ev (fun k => docL k B L R st fv g0 g1 g2 cs (acc.map to106)) ((acc ++ cs.flatMap (partsR st fv g0 g1 g2 B L R)).map to106)
 | [], acc, h => by
  simp only [docL]
  exact Ev.val (by simp)
 | c :: cs, acc, h => by
  have h3 : (partsR st fv g0 g1 g2 B L R c).length ≤ 3 := by
   unfold partsR pieceR
   split
   ·simp
   ·split
    ·simp
    ·split <;> simp
  simp only [docL]
  simp only [List.length_cons] at h
  refine Ev.bind (ev_cut c B L R (by omega) (by omega) (by omega)) ?_
  have b1 := catB_sub (span_sub c.f1 B)
  have b2 := catB_sub (span_sub c.f2 L)
  have b3 := catB_sub (span_sub c.f3 R)
  have n1 := (span_sub c.f1 B).length_le
  have n2 := (span_sub c.f2 L).length_le
  have n3 := (span_sub c.f3 R).length_le
  have hpe : piecePs st fv g0 g1 g2 (clsI c B L R) (spanL c.f1 B) (spanL c.f2 L) (spanL c.f3 R) = some ((partsR st fv g0 g1 g2 B L R c).map to106) := piece_eq st fv g0 g1 g2 _ _ _ _ (by omega) (by omega) (by omega) (by omega) (by omega) (by omega)
  refine Ev.bind (a := (partsR st fv g0 g1 g2 B L R c).map to106) (Ev.const hpe) ?_
  refine Ev.pos (by rw [List.length_map]; omega) ?_
  rw [← List.map_append]
  refine (ev_docL B L R st fv g0 g1 g2 nB nL nR sB sL sR cs (acc ++ partsR st fv g0 g1 g2 B L R c) (by rw [List.length_append]; omega)).cast ?_
  rw [List.flatMap_cons, List.append_assoc]
theorem textSum_append (a b : List RP) : textSum (a ++ b) = textSum a + textSum b := by unfold textSum; rw [List.map_append, List.sum_append]
theorem piece_sum (st fv : Int) (g0 g1 g2 : ByteArray) (k : Int) (b l r : List ByteArray) : textSum (pieceR st fv g0 g1 g2 k b l r) ≤ (catB b).size + (catB l).size + (catB r).size := by
 have one : ∀ s : ByteArray, textSum [textR s] = s.size := fun s => by unfold textSum; simp [textR]
 unfold pieceR
 split
 ·rw [one]; omega
 ·split
  ·rw [one]; omega
  ·split
   ·rw [one]; omega
   ·have h1 := hoist_le st l r
    have h2 := catB_take_drop l (hoistN st l r)
    have h3 : (catB (l.drop (l.length - hoistM st l r))).size ≤ (catB (l.drop (hoistN st l r))).size := catB_sub (by
     rw [show l.length - hoistM st l r = hoistN st l r + (l.length - hoistM st l r - hoistN st l r) by omega, ← List.drop_drop]
     exact List.drop_sublist _ _)
    have e0 : (⟨#[]⟩ : ByteArray).size = 0 := rfl
    unfold textSum
    simp [textR, hunkR]
    omega
theorem parts_sum (st fv : Int) (g0 g1 g2 : ByteArray) (B L R : List ByteArray) : ∀ cs : List SC, textSum (cs.flatMap (partsR st fv g0 g1 g2 B L R)) ≤ (catB (cs.flatMap fun c => spanL c.f1 B)).size + (catB (cs.flatMap fun c => spanL c.f2 L)).size + (catB (cs.flatMap fun c => spanL c.f3 R)).size
 | [] => by simp [textSum]
 | c :: cs => by
  rw [List.flatMap_cons, textSum_append, List.flatMap_cons, List.flatMap_cons, List.flatMap_cons, catB_append, catB_append, catB_append, ByteArray.size_append, ByteArray.size_append, ByteArray.size_append]
  have h1 := parts_sum st fv g0 g1 g2 B L R cs
  have h2 : textSum (partsR st fv g0 g1 g2 B L R c) ≤ _ := piece_sum st fv g0 g1 g2 (clsI c B L R) (spanL c.f1 B) (spanL c.f2 L) (spanL c.f3 R)
  omega
theorem parts_len (st fv : Int) (g0 g1 g2 : ByteArray) (B L R : List ByteArray) : ∀ cs : List SC, (cs.flatMap (partsR st fv g0 g1 g2 B L R)).length ≤ 3 * cs.length
 | [] => by simp
 | c :: cs => by
  rw [List.flatMap_cons, List.length_append, List.length_cons]
  have h1 := parts_len st fv g0 g1 g2 B L R cs
  have h3 : (partsR st fv g0 g1 g2 B L R c).length ≤ 3 := by
   unfold partsR pieceR
   split
   ·simp
   ·split
    ·simp
    ·split <;> simp
  omega
structure Okay (g0 g1 g2 : ByteArray) (st wd fv : Int) : Prop where
 lab : lineless g0 = false ∧ lineless g1 = false ∧ lineless g2 = false
 labs : g0.size + g1.size + g2.size ≤ 1000000000
 sty : 0 ≤ st ∧ st ≤ 2
 wid : 7 ≤ wd ∧ wd ≤ 64
 fav : fv = 0 ∨ fv = 1 ∨ fv = 3
theorem okay_plain {g0 g1 g2 : ByteArray} {st wd fv : Int} (h : Okay g0 g1 g2 st wd fv) : doc_Labels_Plain.f g0 g1 g2 = some true := by
 rw [labels_plain g0 g1 g2 (by have := h.labs; omega), h.lab.1, h.lab.2.1, h.lab.2.2]; rfl
theorem ev_build {B L R : List ByteArray} {lp rp : List SP} {cs : List SC} {g0 g1 g2 : ByteArray} {st wd fv : Int} (ho : Okay g0 g1 g2 st wd fv) (h : Merged B L R lp rp cs) (nB : B.length ≤ 100000000) (nL : L.length ≤ 100000000) (nR : R.length ≤ 100000000) (sB : (catB B).size ≤ 1000000000) (sL : (catB L).size ≤ 1000000000) (sR : (catB R).size ≤ 1000000000) :
  Ev (fun k => build_Doc.f k B L R cs st g0 g1 g2 fv) ((docB st fv g0 g1 g2 B L R cs).map to106, 0) := by
 have hlen := (chunk_count h.steps).1
 have hp := parts_len st fv g0 g1 g2 B L R cs
 have hs := parts_sum st fv g0 g1 g2 B L R cs
 obtain ⟨q1, q2, q3⟩ := steps_spans h.steps
 rw [q1, q2, q3, cut_all, cut_all, cut_all] at hs
 unfold build_Doc.f docF
 refine Ev.neg (by have := ho.sty; have := ho.fav; omega) (Ev.bind (Ev.const (okay_plain ho)) (Ev.pos rfl (Ev.bind ((ev_docL B L R st fv g0 g1 g2 (by omega) (by omega) (by omega) (by omega) (by omega) (by omega) cs [] (by simp only [List.length_nil]; omega))) (Ev.bind (ev_doc_of _ ?_ ?_) (Ev.val rfl)))))
 ·rw [List.nil_append]; omega
 ·rw [List.nil_append]; omega
theorem ev_wrong {g0 g1 g2 : ByteArray} {st wd fv n : Int} (ho : Okay g0 g1 g2 st wd fv) (hn : n ≤ 1073741824) : Ev (fun k => merge_Options_wrong.f k g0 g1 g2 st wd fv n) 0 := by
 have hw := ho.wid
 unfold merge_Options_wrong.f
 refine Ev.neg (by omega) (Ev.bind (Ev.const (okay_plain ho)) (Ev.pos rfl (Ev.neg (by omega) (Ev.neg (by omega) (Ev.bind (a := ([], 0)) ?_ (Ev.val rfl))))))
 unfold build_Doc.f docF
 refine Ev.neg (by have := ho.sty; have := ho.fav; omega) (Ev.bind (Ev.const (okay_plain ho)) (Ev.pos rfl (Ev.bind (a := ([] : List PP)) ?_ (Ev.bind (ev_doc_of [] (by simp) (by simp [textSum])) (Ev.val rfl)))))
 simp only [docL]
 exact Ev.val rfl
def widthB (wd : Int) (a b c : ByteArray) : Int := mx wd (mx (mx (textRun a) (textRun b)) (textRun c) + 1)
theorem ev_width {wd : Int} {a b c : ByteArray} (sa : a.size ≤ 1000000000) (sb : b.size ≤ 1000000000) (sc : c.size ≤ 1000000000) : Ev (fun k => doc_Width.f k wd [a, b, c]) (widthB wd a b c) := by
 refine (ev_doc_width wd [a, b, c] (by simp) (fun s hs => ?_)).cast ?_
 ·simp only [List.mem_cons, List.not_mem_nil, or_false] at hs
  rcases hs with rfl | rfl | rfl <;> omega
 ·have h1 := textRun_bound a
  have h2 := textRun_bound b
  have h3 := textRun_bound c
  unfold widthB
  have e : runAll [a, b, c] 0 = mx (mx (textRun a) (textRun b)) (textRun c) := by
   unfold runAll
   simp only [List.foldl_cons, List.foldl_nil]
   have : mx 0 (textRun a) = textRun a := by rcases mx_cases 0 (textRun a) with h | h <;> omega
   rw [this]
  rw [e, wrap_in]
  ·rcases mx_cases (textRun a) (textRun b) with h | h <;> rcases mx_cases (mx (textRun a) (textRun b)) (textRun c) with g | g <;> omega
  ·rcases mx_cases (textRun a) (textRun b) with h | h <;> rcases mx_cases (mx (textRun a) (textRun b)) (textRun c) with g | g <;> omega
theorem ev_texts {a b c g0 g1 g2 : ByteArray} {st wd fv : Int} {lp rp : List SP} {cs : List SC} (ho : Okay g0 g1 g2 st wd fv) (h : Merged (splitB a) (splitB b) (splitB c) lp rp cs) (hs : a.size + b.size + c.size ≤ 100000000)
  (hn : (docB st fv g0 g1 g2 (splitB a) (splitB b) (splitB c) cs).length ≤ 2000) (hx : ∀ x ∈ docB st fv g0 g1 g2 (splitB a) (splitB b) (splitB c) cs, sizesP x ≤ 1000000000) :
  Ev (fun k => textsF k a b c g0 g1 g2 st wd fv) ((docB st fv g0 g1 g2 (splitB a) (splitB b) (splitB c) cs).map to106, lp, rp, cs, (printP (docB st fv g0 g1 g2 (splitB a) (splitB b) (splitB c) cs) (widthB wd a b c)).1, widthB wd a b c, countB (splitB a) (splitB b) (splitB c) cs, 0) := by
 have na := splitB_length a
 have nb := splitB_length b
 have nc := splitB_length c
 have ca : (catB (splitB a)).size = a.size := by rw [cat_split]
 have cb : (catB (splitB b)).size = b.size := by rw [cat_split]
 have cc : (catB (splitB c)).size = c.size := by rw [cat_split]
 have hlen := (chunk_count h.steps).1
 have hof := ev_chunk_of (nB := (splitB a).length) (nL := (splitB b).length) (nR := (splitB c).length) (h.ml.rises) (h.mr.rises) h.ml.tab.1 h.mr.tab.1 (by omega) (by omega) (by omega) (by have := h.ml.lele; omega) (by have := h.mr.lele; omega) h.sw
 unfold textsF
 refine Ev.pos ⟨by omega, by omega, by omega⟩ (Ev.bind (ev_wrong ho (by omega)) (Ev.pos rfl (Ev.bind (Ev.const (lines_split a (by omega))) (Ev.bind (Ev.const (lines_split b (by omega))) (Ev.bind (Ev.const (lines_split c (by omega))) (Ev.bind (Ev.const h.ml.eq) (Ev.bind (Ev.const h.mr.eq) (Ev.bind (ev_width (by omega) (by omega) (by omega)) (Ev.bind hof
  (Ev.bind (ev_build ho h (by omega) (by omega) (by omega) (by omega) (by omega) (by omega)) (Ev.bind (ev_mark_print _ _ hn hx) (Ev.bind (ev_count _ _ _ (by omega) (by omega) (by omega) cs (by omega)) (Ev.val rfl)))))))))))))
theorem mn_250 (n : Nat) : 0 ≤ mn (n : Int) 250 ∧ mn (n : Int) 250 ≤ n ∧ mn (n : Int) 250 ≤ 250 := by unfold mn; split <;> omega
theorem short_f (a : ByteArray) : ∃ s, tripartitelaw12_Short.f a = some s ∧ s.size ≤ 250 := by
 have h := mn_250 a.size
 unfold tripartitelaw12_Short.f
 rw [if_pos h.1, if_pos h.2.1]
 refine ⟨_, rfl, ?_⟩
 rw [ByteArray.size_extract]
 omega
theorem few_f (x y z : Int) (a b c : ByteArray) (ha : a.size ≤ 140737488351232) (hb : b.size ≤ 140737488351232) (hc : c.size ≤ 140737488351232) : tripartitelaw12_few.f x y z a b c = some (decide (a.size + b.size + c.size ≤ 500)) := by
 unfold tripartitelaw12_few.f
 rw [wrap_in (n := (a.size : Int) + b.size) (by omega) (by omega), wrap_in (by omega) (by omega)]
 congr 1
 exact decide_eq_decide.2 (by omega)
theorem bare_in (a : ByteArray) (hs : a.size ≤ 4000000000) : ∀ (rest done : List UInt8) (i : Int), a.data.toList = done ++ rest → i = done.length → (10 : UInt8) ∉ done → ∃ s, s.size ≤ a.size ∧ lineless s = false ∧ Ev (fun k => tripartitelaw12_bare.l0 k a i) s
 | [], done, i, hd, hi, hn => by
  refine ⟨a, Nat.le_refl _, ?_, ?_⟩
  ·rw [lineless_iff, hd, List.append_nil]; exact decide_eq_false hn
  ·refine Ev.succ ?_
   simp only [tripartitelaw12_bare.l0]
   exact Ev.neg (by have := size_data a; rw [hd] at this; simp at this; omega) (Ev.val rfl)
 | c :: rest, done, i, hd, hi, hn => by
  have hsz : a.size = done.length + (rest.length + 1) := by rw [← size_data a, hd]; simp
  have hw : wrap64 (i + 1) = i + 1 := wrap_in (by omega) (by omega)
  have hbt := bytes_bt a i done rest c hd hi
  by_cases hc : c = 10
  ·subst hc
   refine ⟨a.extract 0 i.toNat, by rw [ByteArray.size_extract]; omega, ?_, ?_⟩
   ·rw [lineless_iff, extract_data, hd, List.drop_zero, show i.toNat = done.length by omega, List.take_left']
    ·exact decide_eq_false hn
    ·rfl
   ·refine Ev.succ ?_
    simp only [tripartitelaw12_bare.l0, hbt]
    exact Ev.pos (by omega) (Ev.pos (by omega) (Ev.pos rfl (Ev.pos (by omega) (Ev.val rfl))))
  ·obtain ⟨s, h1, h2, h3⟩ := bare_in a hs rest (done ++ [c]) (i + 1) (by rw [hd]; simp) (by simp; omega) (by simp [hn]; exact fun e => hc e.symm)
   refine ⟨s, h1, h2, Ev.succ ?_⟩
   simp only [tripartitelaw12_bare.l0, hw, hbt]
   refine Ev.pos (by omega) (Ev.pos (by omega) (Ev.neg (fun e => hc ?_) h3))
   exact UInt8.toNat_inj.1 (by rw [show (10 : UInt8).toNat = 10 from rfl]; omega)
theorem ev_bare (a : ByteArray) (hs : a.size ≤ 4000000000) : ∃ s, s.size ≤ a.size ∧ lineless s = false ∧ Ev (fun k => tripartitelaw12_bare.f k a) s := bare_in a hs a.data.toList [] 0 rfl rfl (by simp)
theorem u64_nonneg (x : Int) : 0 ≤ IntKind.u64.wrap x := by
 have : IntKind.u64.wrap x = x % 18446744073709551616 := rfl
 rw [this]; omega
theorem merged_of (a b c : ByteArray) (ha : a.size ≤ 100000000) (hb : b.size ≤ 100000000) (hc : c.size ≤ 100000000) : ∃ lp rp cs, Merged (splitB a) (splitB b) (splitB c) lp rp cs := by
 have h1 := splitB_length a
 have h2 := splitB_length b
 have h3 := splitB_length c
 exact merged_ex _ _ _ (by omega) (by omega) (by omega) (fun s hs => by have := splitB_mem a s hs; omega) (fun s hs => by have := splitB_mem b s hs; omega) (fun s hs => by have := splitB_mem c s hs; omega)
theorem merged_cat {a b c : ByteArray} {lp rp : List SP} {cs : List SC} (h : Merged (splitB a) (splitB b) (splitB c) lp rp cs) :
  catB (cs.flatMap fun x => spanL x.f1 (splitB a)) = a ∧ catB (cs.flatMap fun x => spanL x.f2 (splitB b)) = b ∧ catB (cs.flatMap fun x => spanL x.f3 (splitB c)) = c := by
 obtain ⟨q1, q2, q3⟩ := steps_spans h.steps
 rw [q1, q2, q3, cut_all, cut_all, cut_all, cat_split, cat_split, cat_split]
 exact ⟨rfl, rfl, rfl⟩
def Told8 (w : World) (t : ByteArray) (wd n ec : Int) (cs : List SC) (e : Ending) (w' : World) : Prop := ∃ (A0 A1 A2 A3 : Option Addr) (n0 c0 n1 c1 n2 c2 c3 : Nat), e = .returned (.tuple #[.agg #[.slice A0 n0 c0, .slice A1 n1 c1, .slice A2 n2 c2, .slice A3 cs.length c3, .string t, .int .i64 wd, .int .i64 n], .int .i64 ec]) ∧ Kd.R k91 91 w' w.heap.size (fun _ => True) (.slice A3 cs.length c3) cs ∧ Below w.heap.size w w'
theorem texts_told {k : Nat} {a b c g0 g1 g2 : ByteArray} {st wd fv : Int} {d : List PP} {lp rp : List SP} {cs : List SC} {t : ByteArray} {W6 n ec : Int} (h : textsF k a b c g0 g1 g2 st wd fv = some (d, lp, rp, cs, t, W6, n, ec)) (w : World) :
  Calls Try.prog 58 #[.string a, .string b, .string c, .agg #[.string g0, .string g1, .string g2, .int .i64 st, .int .i64 wd, .int .i64 fv]] w (Told8 w t W6 n ec cs) := by
 refine (texts_calls k a b c g0 g1 g2 st wd fv d lp rp cs t W6 n ec w h).mono ?_
 rintro e w' ⟨v0, v1, v2, v3, rfl, h0, h1, h2, h3, hb⟩
 obtain ⟨A0, c0, rfl⟩ := Kd.R_slice h0
 obtain ⟨A1, c1, rfl⟩ := Kd.R_slice h1
 obtain ⟨A2, c2, rfl⟩ := Kd.R_slice h2
 obtain ⟨A3, c3, rfl⟩ := Kd.R_slice h3
 exact ⟨A0, A1, A2, A3, _, c0, _, c1, _, c2, c3, rfl, h3, hb⟩
end Go.Proofs.Ytfiamddinkokbaa.F
end

section
namespace Go.Proofs.Ytfiamddinkokbaa.F
open Go.RowKit Go.Proofs.YtfiamddinkokbaaW.PrintWords Go.Proofs.YtfiamddinkokbaaW.PrintLast Go.Proofs.YtfiamddinkokbaaW.PrintMore
theorem eqA89 (d : Nat) (w : World) (x0 y0 : Int) (x1 y1 : Int) :
  (Op.equalIn (d + 2) 89 (.agg #[.int .i64 x0, .int .i64 x1]) (.agg #[.int .i64 y0, .int .i64 y1])).run Try.prog w = .ok (x0 == y0 && (x1 == y1)) w := by
 refine eqA_of Try.underlying89 (by kernel_rfl) ?_
 refine eqf_cons (by rfl) (by go_simp; rfl) (by go_simp; rfl) (by go_simp) ?_
 exact eqf_last (by rfl) (by go_simp; rfl) (by go_simp; rfl) (by go_simp)
theorem eqA91 (d : Nat) (w : World) (x0 y0 : Bool) (x1 y1 : Int) (x2 y2 : Int) (x3 y3 : Int) (x4 y4 : Int) (x5 y5 : Int) (x6 y6 : Int) :
  (Op.equalIn (d + 3) 91 (.agg #[.bool x0, .int .i64 x1, .int .i64 x2, .int .i64 x3, .int .i64 x4, .int .i64 x5, .int .i64 x6]) (.agg #[.bool y0, .int .i64 y1, .int .i64 y2, .int .i64 y3, .int .i64 y4, .int .i64 y5, .int .i64 y6])).run Try.prog w = .ok (x0 == y0 && ((x1 == y1 && (x2 == y2)) && ((x3 == y3 && (x4 == y4)) && ((x5 == y5 && (x6 == y6)))))) w := by
 refine eqA_of Try.underlying91 (by kernel_rfl) ?_
 refine eqf_cons (by rfl) (by go_simp; rfl) (by go_simp; rfl) (by go_simp) ?_
 refine eqf_cons (by rfl) (by go_simp) (by go_simp) (eqA89 (d + 0) w _ _ _ _) ?_
 refine eqf_cons (by rfl) (by go_simp) (by go_simp) (eqA89 (d + 0) w _ _ _ _) ?_
 exact eqf_last (by rfl) (by go_simp) (by go_simp) (eqA89 (d + 0) w _ _ _ _)
end Go.Proofs.Ytfiamddinkokbaa.F
end

section
namespace Go.Proofs.Ytfiamddinkokbaa.F
open Go.RowKit Go.Shelf Go.Proofs.YtfiamddinkokbaaW.PrintWords
attribute [local go_sem high] eqA91
theorem alive_ex : ∃ k, tripartitetop_alive.f k = some true := ⟨60, by decide +kernel⟩
theorem alive_calls (W : World) : Calls Try.prog 56 #[] W fun e W' => e = .returned (.bool true) ∧ Below W.heap.size W W' := by
 obtain ⟨k, h⟩ := alive_ex
 exact tripartitetop_alive.calls k true W h
theorem fits_bool {st wd fv : Int} {g0 g1 g2 : ByteArray} (s0 : g0.size ≤ 140737488351232) (s1 : g1.size ≤ 140737488351232) (s2 : g2.size ≤ 140737488351232) (W : World) :
  Calls Try.prog 55 #[.agg #[.int .i64 st, .int .i64 wd, .int .i64 fv, .string g0, .string g1, .string g2]] W fun e W' => e = .returned (.bool (decide (g0.size + g1.size + g2.size ≤ 500))) ∧ Below W.heap.size W W' :=
 tripartitetop_fits.calls st wd fv g0 g1 g2 _ W (few_f st wd fv g0 g1 g2 s0 s1 s2)
def ToldN (w : World) (t : ByteArray) (wd n ec : Int) (m : Nat) (cs : List SC) (e : Ending) (w' : World) : Prop := ∃ (A0 A1 A2 A3 : Option Addr) (n0 c0 n1 c1 n2 c2 c3 : Nat), e = .returned (.tuple #[.agg #[.slice A0 n0 c0, .slice A1 n1 c1, .slice A2 n2 c2, .slice A3 m c3, .string t, .int .i64 wd, .int .i64 n], .int .i64 ec]) ∧ Kd.C k91 w' A3 m cs ∧ Below w.heap.size w w'
theorem texts_toldN {k : Nat} {a b c g0 g1 g2 : ByteArray} {st wd fv : Int} {d : List PP} {lp rp : List SP} {cs : List SC} {t : ByteArray} {W6 n ec : Int} {m : Nat} (h : textsF k a b c g0 g1 g2 st wd fv = some (d, lp, rp, cs, t, W6, n, ec)) (hm : cs.length = m) (w : World) :
  Calls Try.prog 58 #[.string a, .string b, .string c, .agg #[.string g0, .string g1, .string g2, .int .i64 st, .int .i64 wd, .int .i64 fv]] w (ToldN w t W6 n ec m cs) := by
 subst hm
 refine (texts_told h w).mono ?_
 rintro e w' ⟨A0, A1, A2, A3, n0, c0, n1, c1, n2, c2, c3, rfl, hr, hb⟩
 obtain ⟨B, b, e, hl, hC⟩ := Kd.R_reads hr
 injection e with e1 e2 e3
 subst e1
 exact ⟨A0, A1, A2, A3, n0, c0, n1, c1, n2, c2, c3, rfl, hC, hb⟩
end Go.Proofs.Ytfiamddinkokbaa.F
end

section
namespace Go.Proofs.Ytfiamddinkokbaa.F
open Go.RowKit Go.Shelf Go.Proofs.YtfiamddinkokbaaW.PrintWords
theorem ev_options2 (st wd fv : Int) (a b c : ByteArray) (hs : a.size + b.size + c.size ≤ 500) : ∃ (g0 g1 g2 : ByteArray) (st' wd' : Int), Okay g0 g1 g2 st' wd' 0 ∧ g0.size + g1.size + g2.size ≤ 500 ∧ Ev (fun k => tripartitelaw12_Options.f k st wd fv a b c) (g0, g1, g2, st', wd', 0) := by
 obtain ⟨g0, s0, l0, e0⟩ := ev_bare a (by omega)
 obtain ⟨g1, s1, l1, e1⟩ := ev_bare b (by omega)
 obtain ⟨g2, s2, l2, e2⟩ := ev_bare c (by omega)
 have u1 := u64_nonneg st
 have u2 := u64_nonneg wd
 have t1 : 0 ≤ Int.tmod (IntKind.u64.wrap st) 3 ∧ Int.tmod (IntKind.u64.wrap st) 3 < 3 := by rw [Int.tmod_eq_emod_of_nonneg u1]; omega
 have t2 : 0 ≤ Int.tmod (IntKind.u64.wrap wd) 58 ∧ Int.tmod (IntKind.u64.wrap wd) 58 < 58 := by rw [Int.tmod_eq_emod_of_nonneg u2]; omega
 have w1 : wrap64 (Int.tmod (IntKind.u64.wrap st) 3) = Int.tmod (IntKind.u64.wrap st) 3 := wrap_in (by omega) (by omega)
 have w2 : wrap64 (Int.tmod (IntKind.u64.wrap wd) 58) = Int.tmod (IntKind.u64.wrap wd) 58 := wrap_in (by omega) (by omega)
 have w3 : wrap64 (7 + Int.tmod (IntKind.u64.wrap wd) 58) = 7 + Int.tmod (IntKind.u64.wrap wd) 58 := wrap_in (by omega) (by omega)
 refine ⟨g0, g1, g2, Int.tmod (IntKind.u64.wrap st) 3, 7 + Int.tmod (IntKind.u64.wrap wd) 58, ⟨⟨l0, l1, l2⟩, by omega, by omega, by omega, .inl rfl⟩, by omega, ?_⟩
 unfold tripartitelaw12_Options.f
 refine Ev.bind (a := (a, b, c, false, ⟨#[]⟩, ⟨#[]⟩, ⟨#[]⟩, ⟨#[]⟩, false)) (Ev.const ?_) (Ev.bind e0 (Ev.bind e1 (Ev.bind e2 (Ev.val ?_))))
 ·rfl
 ·rw [w1, w2, w3]
theorem sumP_app (a b : List RP) : sumP (a ++ b) = sumP a + sumP b := by unfold sumP; rw [List.map_append, List.sum_append]
theorem sumP_one (x : RP) : sumP [x] = sizesP x := by unfold sumP; simp
theorem sumP_mem {l : List RP} {x : RP} (h : x ∈ l) : sizesP x ≤ sumP l := by
 obtain ⟨a, b, rfl⟩ := List.append_of_mem h
 rw [sumP_app, show x :: b = [x] ++ b from rfl, sumP_app, sumP_one]; omega
theorem joinP_size (z p : RP) : sizesP (joinP z p) ≤ sizesP z + sizesP p := by unfold sizesP joinP; simp only [ByteArray.size_append]; omega
theorem ofStep_le (out : List RP) (p : RP) : (ofStep out p).length ≤ out.length + 1 ∧ sumP (ofStep out p) ≤ sumP out + sizesP p := by
 by_cases hn : isNoneP p = true
 ·rw [ofStep_none _ _ hn]; omega
 rcases List.eq_nil_or_concat out with rfl | ⟨u, z, rfl⟩
 ·rw [ofStep_nil _ hn, sumP_one]; simp
 ·rw [List.concat_eq_append]
  by_cases hj : isTextP p = true ∧ isTextP z = true
  ·rw [ofStep_join u z p hn hj.1 hj.2]
   have := joinP_size z p
   simp only [sumP_app, sumP_one, List.length_append, List.length_singleton]
   omega
  ·rw [ofStep_put u z p hn hj]
   simp only [sumP_app, sumP_one, List.length_append, List.length_singleton]
   omega
theorem ofP_le : ∀ (l out : List RP), (l.foldl ofStep out).length ≤ out.length + l.length ∧ sumP (l.foldl ofStep out) ≤ sumP out + sumP l
 | [], out => by simp
 | p :: l, out => by
  have h1 := ofStep_le out p
  have h2 := ofP_le l (ofStep out p)
  rw [List.foldl_cons, show p :: l = [p] ++ l from rfl, sumP_app, sumP_one, List.length_append, List.length_singleton]
  omega
theorem catB_take (n : Nat) (l : List ByteArray) : (catB (l.take n)).size ≤ (catB l).size := by
 have := catB_append (l.take n) (l.drop n)
 rw [List.take_append_drop] at this
 rw [this, ByteArray.size_append]; omega
theorem catB_drop (n : Nat) (l : List ByteArray) : (catB (l.drop n)).size ≤ (catB l).size := by
 have := catB_append (l.take n) (l.drop n)
 rw [List.take_append_drop] at this
 rw [this, ByteArray.size_append]; omega
theorem catB_span (s : SSp) (l : List ByteArray) : (catB (spanL s l)).size ≤ (catB l).size := by
 unfold spanL
 split
 ·rw [catB_nil]; exact Nat.zero_le _
 ·exact Nat.le_trans (catB_drop _ _) (catB_take _ _)
theorem textR_size (s : ByteArray) : sizesP (textR s) = s.size := by
 have e0 : (⟨#[]⟩ : ByteArray).size = 0 := rfl
 unfold sizesP textR; simp only [e0]; omega
theorem hunkR_size (st : Int) (g0 g1 g2 : ByteArray) (b l r : List ByteArray) : sizesP (hunkR st g0 g1 g2 b l r) ≤ g0.size + g1.size + g2.size + (catB b).size + (catB l).size + (catB r).size := by
 have e0 : (⟨#[]⟩ : ByteArray).size = 0 := rfl
 have h1 : (catB (midL l (hoistN st l r) (hoistM st l r))).size ≤ (catB l).size := Nat.le_trans (catB_drop _ _) (catB_take _ _)
 have h2 : (catB (midL r (hoistN st l r) (hoistM st l r))).size ≤ (catB r).size := Nat.le_trans (catB_drop _ _) (catB_take _ _)
 unfold sizesP hunkR
 by_cases h : st = 0
 ·simp only [if_pos h, e0]; omega
 ·simp only [if_neg h, e0]; omega
theorem pieceR_le (st fv : Int) (g0 g1 g2 : ByteArray) (k : Int) (b l r : List ByteArray) (hb : (catB b).size ≤ 250) (hl : (catB l).size ≤ 250) (hr : (catB r).size ≤ 250) (hg : g0.size + g1.size + g2.size ≤ 500) :
  (pieceR st fv g0 g1 g2 k b l r).length ≤ 3 ∧ sumP (pieceR st fv g0 g1 g2 k b l r) ≤ 2000 := by
 unfold pieceR
 split
 ·rw [sumP_one, textR_size]; exact ⟨by simp, by omega⟩
 split
 ·rw [sumP_one, textR_size]; exact ⟨by simp, by omega⟩
 split
 ·rw [sumP_one, textR_size]; exact ⟨by simp, by omega⟩
 ·have h1 := catB_take (hoistN st l r) l
  have h2 := catB_drop (l.length - hoistM st l r) l
  have h3 := hunkR_size st g0 g1 g2 b l r
  refine ⟨by simp, ?_⟩
  rw [show ∀ x y z : RP, [x, y, z] = [x] ++ ([y] ++ [z]) from fun _ _ _ => rfl, sumP_app, sumP_app, sumP_one, sumP_one, sumP_one, textR_size, textR_size]
  omega
theorem flat_le (f : SC → List RP) (h : ∀ c, (f c).length ≤ 3 ∧ sumP (f c) ≤ 2000) : ∀ cs : List SC, (cs.flatMap f).length ≤ 3 * cs.length ∧ sumP (cs.flatMap f) ≤ 2000 * cs.length
 | [] => by simp [sumP]
 | c :: cs => by
  have h1 := h c
  have h2 := flat_le f h cs
  rw [List.flatMap_cons, sumP_app, List.length_append, List.length_cons]
  omega
theorem docB_le {st fv : Int} {g0 g1 g2 : ByteArray} {B L R : List ByteArray} {cs : List SC} (hb : (catB B).size ≤ 250) (hl : (catB L).size ≤ 250) (hr : (catB R).size ≤ 250) (hg : g0.size + g1.size + g2.size ≤ 500) (hc : cs.length ≤ 501) :
  (docB st fv g0 g1 g2 B L R cs).length ≤ 1503 ∧ sumP (docB st fv g0 g1 g2 B L R cs) ≤ 1002000 := by
 have h1 := flat_le (partsR st fv g0 g1 g2 B L R) (fun c => pieceR_le st fv g0 g1 g2 _ _ _ _ (Nat.le_trans (catB_span c.f1 B) hb) (Nat.le_trans (catB_span c.f2 L) hl) (Nat.le_trans (catB_span c.f3 R) hr) hg) cs
 have h2 := ofP_le (cs.flatMap (partsR st fv g0 g1 g2 B L R)) []
 unfold docB ofP
 have e : sumP [] = 0 := rfl
 rw [e, List.length_nil] at h2
 omega
theorem lineL_le (k : Int) (fl : Bool) (lb : ByteArray) (w : Int) : (lineL k fl lb w).length ≤ w.toNat + lb.size + 3 := by
 have h := size_data lb
 unfold lineL
 rw [lineB_markL, data_toB]
 unfold markL
 simp only [List.length_append, List.length_replicate, List.length_singleton]
 have h1 : (if fl = true then [(33 : UInt8)] else []).length ≤ 1 := by split <;> simp
 have h2 : (if lb.data.toList.isEmpty = true then [] else (32 : UInt8) :: lb.data.toList).length ≤ lb.size + 1 := by split <;> simp
 omega
theorem sideL_le (s : ByteArray) (q : Bool) : (sideL s q).length ≤ s.size + 1 := by
 have h := size_data s
 unfold sideL
 rw [List.length_append]
 have h1 : (if lacksB s q = true then [(10 : UInt8)] else []).length ≤ 1 := by split <;> simp
 omega
theorem partL_le (w : Int) (hw : w ≤ 300) (x : RP) : (partL w (to106 x)).length ≤ sizesP x + 1300 := by
 have hx := size_data x.f4
 unfold partL
 rw [List.length_append]
 have e4 : (to106 x).f2 = x.f4 := rfl
 rw [e4]
 split
 ·unfold hunkL
  have a1 := lineL_le 60 false (to106 x).f0.f0 w
  have a2 := sideL_le (to106 x).f3 (sufQ (to106 x).f3)
  have a3 := lineL_le 124 (lacksB (to106 x).f3 (sufQ (to106 x).f3)) (to106 x).f0.f1 w
  have a4 := sideL_le (to106 x).f4 (sufQ (to106 x).f4)
  have a5 := lineL_le 61 (if (to106 x).f6 = true then lacksB (to106 x).f4 (sufQ (to106 x).f4) else lacksB (to106 x).f3 (sufQ (to106 x).f3)) ⟨#[]⟩ w
  have a6 := sideL_le (to106 x).f5 (sufQ (to106 x).f5)
  have a7 := lineL_le 62 (lacksB (to106 x).f5 (sufQ (to106 x).f5)) (to106 x).f0.f2 w
  have e0 : (⟨#[]⟩ : ByteArray).size = 0 := rfl
  have b1 : (to106 x).f0.f0 = x.f0 := rfl
  have b2 : (to106 x).f0.f1 = x.f1 := rfl
  have b3 : (to106 x).f0.f2 = x.f2 := rfl
  have b4 : (to106 x).f3 = x.f5 := rfl
  have b5 : (to106 x).f4 = x.f6 := rfl
  have b6 : (to106 x).f5 = x.f7 := rfl
  rw [b1] at a1
  rw [b4] at a2
  rw [b2] at a3
  rw [b5] at a4
  rw [b6] at a6
  rw [b3] at a7
  rw [e0] at a5
  rw [b1, b2, b3, b4, b5, b6]
  rw [b4] at a3
  rw [b4, b5] at a5
  rw [b6] at a7
  simp only [List.length_append]
  have a8 : (if (to106 x).f6 = true then lineL 124 (lacksB x.f5 (sufQ x.f5)) x.f1 w ++ sideL x.f6 (sufQ x.f6) else []).length ≤ (lineL 124 (lacksB x.f5 (sufQ x.f5)) x.f1 w).length + (sideL x.f6 (sufQ x.f6)).length := by split <;> simp
  unfold sizesP
  omega
 ·unfold sizesP; simp; omega
theorem printL_le (w : Int) (hw : w ≤ 300) : ∀ l : List RP, (printL w (l.map to106)).length ≤ sumP l + 1300 * l.length
 | [] => by simp [printL]
 | x :: l => by
  have h1 := partL_le w hw x
  have h2 := printL_le w hw l
  unfold printL at *
  rw [List.map_cons, List.flatMap_cons, List.length_append, show x :: l = [x] ++ l from rfl, sumP_app, sumP_one, List.length_append, List.length_singleton]
  omega
theorem printP_le (l : List RP) (w : Int) (hw : w ≤ 300) : (printP l w).1.size ≤ sumP l + 1300 * l.length := by
 have h := printL_le w hw l
 have e0 : (⟨#[]⟩ : ByteArray).size = 0 := rfl
 unfold printP
 split
 ·split
  ·split
   ·show (toB _).size ≤ _
    rw [← size_data, data_toB]; exact h
   ·show (⟨#[]⟩ : ByteArray).size ≤ _
    omega
  ·show (⟨#[]⟩ : ByteArray).size ≤ _
   omega
 ·show (⟨#[]⟩ : ByteArray).size ≤ _
  omega
theorem widthB_300 {wd : Int} {a b c : ByteArray} (hw : wd ≤ 64) (ha : a.size ≤ 250) (hb : b.size ≤ 250) (hc : c.size ≤ 250) : widthB wd a b c ≤ 300 := by
 have h1 := textRun_bound a
 have h2 := textRun_bound b
 have h3 := textRun_bound c
 unfold widthB
 rcases mx_cases (textRun a) (textRun b) with h | h <;> rcases mx_cases (mx (textRun a) (textRun b)) (textRun c) with g | g <;> rcases mx_cases wd (mx (mx (textRun a) (textRun b)) (textRun c) + 1) with f | f <;> omega
theorem ev_merge {a b c g0 g1 g2 : ByteArray} {st wd fv : Int} (ho : Okay g0 g1 g2 st wd fv) (hg : g0.size + g1.size + g2.size ≤ 500) (ha : a.size ≤ 250) (hb : b.size ≤ 250) (hc : c.size ≤ 250) :
  ∃ d lp rp cs t, Merged (splitB a) (splitB b) (splitB c) lp rp cs ∧ cs.length ≤ 501 ∧ t = (printP (docB st fv g0 g1 g2 (splitB a) (splitB b) (splitB c) cs) (widthB wd a b c)).1 ∧ t.size ≤ 10000000 ∧
   Ev (fun k => textsF k a b c g0 g1 g2 st wd fv) (d, lp, rp, cs, t, widthB wd a b c, countB (splitB a) (splitB b) (splitB c) cs, 0) := by
 obtain ⟨lp, rp, cs, h⟩ := merged_of a b c (by omega) (by omega) (by omega)
 have q1 := (chunk_count h.steps).1
 have q2 := splitB_length a
 have hle := docB_le (st := st) (fv := fv) (cs := cs) (g0 := g0) (g1 := g1) (g2 := g2) (B := splitB a) (L := splitB b) (R := splitB c) (by rw [cat_split]; exact ha) (by rw [cat_split]; exact hb) (by rw [cat_split]; exact hc) hg (by omega)
 have hp := printP_le (docB st fv g0 g1 g2 (splitB a) (splitB b) (splitB c) cs) (widthB wd a b c) (widthB_300 ho.wid.2 ha hb hc)
 exact ⟨_, lp, rp, cs, _, h, by omega, rfl, by omega, ev_texts ho h (by omega) (by omega) (fun x hx => by have := sumP_mem hx; omega)⟩
end Go.Proofs.Ytfiamddinkokbaa.F
end
