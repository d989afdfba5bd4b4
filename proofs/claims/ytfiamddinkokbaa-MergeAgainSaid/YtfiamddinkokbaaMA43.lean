/- Texts joined into one file (wip/tools/pack.py): PureGen, AgainWalk, OpenHow -/
import Derived.Test.YtfiamddinkokbaaMA42
import Derived.Test.YtfiamddinkokbaaMA36
import Derived.Laws.IdiomArrays
import Derived.OpenShut
set_option linter.unusedVariables false
set_option linter.unusedSimpArgs false
section
namespace Go.Proofs.Ytfiamddinkokbaa.F
open Go.RowKit Go.Shelf Go.Proofs.YtfiamddinkokbaaW.PrintWords
theorem ev_options2 (st wd fv : Int) (a b c : ByteArray) (hs : a.size + b.size + c.size ≤ 500) : ∃ (g0 g1 g2 : ByteArray) (st' wd' : Int), Okay g0 g1 g2 st' wd' 0 ∧ g0.size + g1.size + g2.size ≤ 500 ∧ Ev (fun k => tripartitelaw12_Options.f k st wd fv a b c) (g0, g1, g2, st', wd', 0) := by
 obtain ⟨g0, s0, l0, e0⟩ := ev_bare a (by omega)
 obtain ⟨g1, s1, l1, e1⟩ := ev_bare b (by omega)
 obtain ⟨g2, s2, l2, e2⟩ := ev_bare c (by omega)
 have u1 := u64_nonneg st
 have u2 := u64_nonneg wd
 have t1 : 0 ≤ Int.tmod (IntKind.u64.wrap st) 3 ∧ Int.tmod (IntKind.u64.wrap st) 3 < 3 := by rw [Int.tmod_eq_emod_of_nonneg u1]; omega
 have t2 : 0 ≤ Int.tmod (IntKind.u64.wrap wd) 58 ∧ Int.tmod (IntKind.u64.wrap wd) 58 < 58 := by rw [Int.tmod_eq_emod_of_nonneg u2]; omega
 have w1 : wrap64 (Int.tmod (IntKind.u64.wrap st) 3) = Int.tmod (IntKind.u64.wrap st) 3 := wrap_in (by omega) (by omega)
 have w2 : wrap64 (Int.tmod (IntKind.u64.wrap wd) 58) = Int.tmod (IntKind.u64.wrap wd) 58 := wrap_in (by omega) (by omega)
 have w3 : wrap64 (7 + Int.tmod (IntKind.u64.wrap wd) 58) = 7 + Int.tmod (IntKind.u64.wrap wd) 58 := wrap_in (by omega) (by omega)
 refine ⟨g0, g1, g2, Int.tmod (IntKind.u64.wrap st) 3, 7 + Int.tmod (IntKind.u64.wrap wd) 58, ⟨⟨l0, l1, l2⟩, by omega, by omega, by omega, .inl rfl⟩, by omega, ?_⟩
 unfold tripartitelaw12_Options.f
 refine Ev.bind (a := (a, b, c, false, ⟨#[]⟩, ⟨#[]⟩, ⟨#[]⟩, ⟨#[]⟩, false)) (Ev.const ?_) (Ev.bind e0 (Ev.bind e1 (Ev.bind e2 (Ev.val ?_))))
 ·rfl
 ·rw [w1, w2, w3]
theorem sumP_app (a b : List RP) : sumP (a ++ b) = sumP a + sumP b := by unfold sumP; rw [List.map_append, List.sum_append]
theorem sumP_one (x : RP) : sumP [x] = sizesP x := by unfold sumP; simp
theorem sumP_mem {l : List RP} {x : RP} (h : x ∈ l) : sizesP x ≤ sumP l := by
 obtain ⟨a, b, rfl⟩ := List.append_of_mem h
 rw [sumP_app, show x :: b = [x] ++ b from rfl, sumP_app, sumP_one]; omega
theorem joinP_size (z p : RP) : sizesP (joinP z p) ≤ sizesP z + sizesP p := by unfold sizesP joinP; simp only [ByteArray.size_append]; omega
theorem ofStep_le (out : List RP) (p : RP) : (ofStep out p).length ≤ out.length + 1 ∧ sumP (ofStep out p) ≤ sumP out + sizesP p := by
 by_cases hn : isNoneP p = true
 ·rw [ofStep_none _ _ hn]; omega
 rcases List.eq_nil_or_concat out with rfl | ⟨u, z, rfl⟩
 ·rw [ofStep_nil _ hn, sumP_one]; simp
 ·rw [List.concat_eq_append]
  by_cases hj : isTextP p = true ∧ isTextP z = true
  ·rw [ofStep_join u z p hn hj.1 hj.2]
   have := joinP_size z p
   simp only [sumP_app, sumP_one, List.length_append, List.length_singleton]
   omega
  ·rw [ofStep_put u z p hn hj]
   simp only [sumP_app, sumP_one, List.length_append, List.length_singleton]
   omega
theorem ofP_le : ∀ (l out : List RP), (l.foldl ofStep out).length ≤ out.length + l.length ∧ sumP (l.foldl ofStep out) ≤ sumP out + sumP l
 | [], out => by simp
 | p :: l, out => by
  have h1 := ofStep_le out p
  have h2 := ofP_le l (ofStep out p)
  rw [List.foldl_cons, show p :: l = [p] ++ l from rfl, sumP_app, sumP_one, List.length_append, List.length_singleton]
  omega
theorem catB_take (n : Nat) (l : List ByteArray) : (catB (l.take n)).size ≤ (catB l).size := by
 have := catB_append (l.take n) (l.drop n)
 rw [List.take_append_drop] at this
 rw [this, ByteArray.size_append]; omega
theorem catB_drop (n : Nat) (l : List ByteArray) : (catB (l.drop n)).size ≤ (catB l).size := by
 have := catB_append (l.take n) (l.drop n)
 rw [List.take_append_drop] at this
 rw [this, ByteArray.size_append]; omega
theorem catB_span (s : SSp) (l : List ByteArray) : (catB (spanL s l)).size ≤ (catB l).size := by
 unfold spanL
 split
 ·rw [catB_nil]; exact Nat.zero_le _
 ·exact Nat.le_trans (catB_drop _ _) (catB_take _ _)
theorem textR_size (s : ByteArray) : sizesP (textR s) = s.size := by
 have e0 : (⟨#[]⟩ : ByteArray).size = 0 := rfl
 unfold sizesP textR; simp only [e0]; omega
theorem hunkR_size (st : Int) (g0 g1 g2 : ByteArray) (b l r : List ByteArray) : sizesP (hunkR st g0 g1 g2 b l r) ≤ g0.size + g1.size + g2.size + (catB b).size + (catB l).size + (catB r).size := by
 have e0 : (⟨#[]⟩ : ByteArray).size = 0 := rfl
 have h1 : (catB (midL l (hoistN st l r) (hoistM st l r))).size ≤ (catB l).size := Nat.le_trans (catB_drop _ _) (catB_take _ _)
 have h2 : (catB (midL r (hoistN st l r) (hoistM st l r))).size ≤ (catB r).size := Nat.le_trans (catB_drop _ _) (catB_take _ _)
 unfold sizesP hunkR
 by_cases h : st = 0
 ·simp only [if_pos h, e0]; omega
 ·simp only [if_neg h, e0]; omega
theorem pieceR_le (st fv : Int) (g0 g1 g2 : ByteArray) (k : Int) (b l r : List ByteArray) (hb : (catB b).size ≤ 250) (hl : (catB l).size ≤ 250) (hr : (catB r).size ≤ 250) (hg : g0.size + g1.size + g2.size ≤ 500) :
  (pieceR st fv g0 g1 g2 k b l r).length ≤ 3 ∧ sumP (pieceR st fv g0 g1 g2 k b l r) ≤ 2000 := by
 unfold pieceR
 split
 ·rw [sumP_one, textR_size]; exact ⟨by simp, by omega⟩
 split
 ·rw [sumP_one, textR_size]; exact ⟨by simp, by omega⟩
 split
 ·rw [sumP_one, textR_size]; exact ⟨by simp, by omega⟩
 ·have h1 := catB_take (hoistN st l r) l
  have h2 := catB_drop (l.length - hoistM st l r) l
  have h3 := hunkR_size st g0 g1 g2 b l r
  refine ⟨by simp, ?_⟩
  rw [show ∀ x y z : RP, [x, y, z] = [x] ++ ([y] ++ [z]) from fun _ _ _ => rfl, sumP_app, sumP_app, sumP_one, sumP_one, sumP_one, textR_size, textR_size]
  omega
theorem flat_le (f : SC → List RP) (h : ∀ c, (f c).length ≤ 3 ∧ sumP (f c) ≤ 2000) : ∀ cs : List SC, (cs.flatMap f).length ≤ 3 * cs.length ∧ sumP (cs.flatMap f) ≤ 2000 * cs.length
 | [] => by simp [sumP]
 | c :: cs => by
  have h1 := h c
  have h2 := flat_le f h cs
  rw [List.flatMap_cons, sumP_app, List.length_append, List.length_cons]
  omega
theorem docB_le {st fv : Int} {g0 g1 g2 : ByteArray} {B L R : List ByteArray} {cs : List SC} (hb : (catB B).size ≤ 250) (hl : (catB L).size ≤ 250) (hr : (catB R).size ≤ 250) (hg : g0.size + g1.size + g2.size ≤ 500) (hc : cs.length ≤ 501) :
  (docB st fv g0 g1 g2 B L R cs).length ≤ 1503 ∧ sumP (docB st fv g0 g1 g2 B L R cs) ≤ 1002000 := by
 have h1 := flat_le (partsR st fv g0 g1 g2 B L R) (fun c => pieceR_le st fv g0 g1 g2 _ _ _ _ (Nat.le_trans (catB_span c.f1 B) hb) (Nat.le_trans (catB_span c.f2 L) hl) (Nat.le_trans (catB_span c.f3 R) hr) hg) cs
 have h2 := ofP_le (cs.flatMap (partsR st fv g0 g1 g2 B L R)) []
 unfold docB ofP
 have e : sumP [] = 0 := rfl
 rw [e, List.length_nil] at h2
 omega
theorem lineL_le (k : Int) (fl : Bool) (lb : ByteArray) (w : Int) : (lineL k fl lb w).length ≤ w.toNat + lb.size + 3 := by
 have h := size_data lb
 unfold lineL
 rw [lineB_markL, data_toB]
 unfold markL
 simp only [List.length_append, List.length_replicate, List.length_singleton]
 have h1 : (if fl = true then [(33 : UInt8)] else []).length ≤ 1 := by split <;> simp
 have h2 : (if lb.data.toList.isEmpty = true then [] else (32 : UInt8) :: lb.data.toList).length ≤ lb.size + 1 := by split <;> simp
 omega
theorem sideL_le (s : ByteArray) (q : Bool) : (sideL s q).length ≤ s.size + 1 := by
 have h := size_data s
 unfold sideL
 rw [List.length_append]
 have h1 : (if lacksB s q = true then [(10 : UInt8)] else []).length ≤ 1 := by split <;> simp
 omega
theorem partL_le (w : Int) (hw : w ≤ 300) (x : RP) : (partL w (to106 x)).length ≤ sizesP x + 1300 := by
 have hx := size_data x.f4
 unfold partL
 rw [List.length_append]
 have e4 : (to106 x).f2 = x.f4 := rfl
 rw [e4]
 split
 ·unfold hunkL
  have a1 := lineL_le 60 false (to106 x).f0.f0 w
  have a2 := sideL_le (to106 x).f3 (sufQ (to106 x).f3)
  have a3 := lineL_le 124 (lacksB (to106 x).f3 (sufQ (to106 x).f3)) (to106 x).f0.f1 w
  have a4 := sideL_le (to106 x).f4 (sufQ (to106 x).f4)
  have a5 := lineL_le 61 (if (to106 x).f6 = true then lacksB (to106 x).f4 (sufQ (to106 x).f4) else lacksB (to106 x).f3 (sufQ (to106 x).f3)) ⟨#[]⟩ w
  have a6 := sideL_le (to106 x).f5 (sufQ (to106 x).f5)
  have a7 := lineL_le 62 (lacksB (to106 x).f5 (sufQ (to106 x).f5)) (to106 x).f0.f2 w
  have e0 : (⟨#[]⟩ : ByteArray).size = 0 := rfl
  have b1 : (to106 x).f0.f0 = x.f0 := rfl
  have b2 : (to106 x).f0.f1 = x.f1 := rfl
  have b3 : (to106 x).f0.f2 = x.f2 := rfl
  have b4 : (to106 x).f3 = x.f5 := rfl
  have b5 : (to106 x).f4 = x.f6 := rfl
  have b6 : (to106 x).f5 = x.f7 := rfl
  rw [b1] at a1
  rw [b4] at a2
  rw [b2] at a3
  rw [b5] at a4
  rw [b6] at a6
  rw [b3] at a7
  rw [e0] at a5
  rw [b1, b2, b3, b4, b5, b6]
  rw [b4] at a3
  rw [b4, b5] at a5
  rw [b6] at a7
  simp only [List.length_append]
  have a8 : (if (to106 x).f6 = true then lineL 124 (lacksB x.f5 (sufQ x.f5)) x.f1 w ++ sideL x.f6 (sufQ x.f6) else []).length ≤ (lineL 124 (lacksB x.f5 (sufQ x.f5)) x.f1 w).length + (sideL x.f6 (sufQ x.f6)).length := by split <;> simp
  unfold sizesP
  omega
 ·unfold sizesP; simp; omega
theorem printL_le (w : Int) (hw : w ≤ 300) : ∀ l : List RP, (printL w (l.map to106)).length ≤ sumP l + 1300 * l.length
 | [] => by simp [printL]
 | x :: l => by
  have h1 := partL_le w hw x
  have h2 := printL_le w hw l
  unfold printL at *
  rw [List.map_cons, List.flatMap_cons, List.length_append, show x :: l = [x] ++ l from rfl, sumP_app, sumP_one, List.length_append, List.length_singleton]
  omega
theorem printP_le (l : List RP) (w : Int) (hw : w ≤ 300) : (printP l w).1.size ≤ sumP l + 1300 * l.length := by
 have h := printL_le w hw l
 have e0 : (⟨#[]⟩ : ByteArray).size = 0 := rfl
 unfold printP
 split
 ·split
  ·split
   ·show (toB _).size ≤ _
    rw [← size_data, data_toB]; exact h
   ·show (⟨#[]⟩ : ByteArray).size ≤ _
    omega
  ·show (⟨#[]⟩ : ByteArray).size ≤ _
   omega
 ·show (⟨#[]⟩ : ByteArray).size ≤ _
  omega
theorem widthB_300 {wd : Int} {a b c : ByteArray} (hw : wd ≤ 64) (ha : a.size ≤ 250) (hb : b.size ≤ 250) (hc : c.size ≤ 250) : widthB wd a b c ≤ 300 := by
 have h1 := textRun_bound a
 have h2 := textRun_bound b
 have h3 := textRun_bound c
 unfold widthB
 rcases mx_cases (textRun a) (textRun b) with h | h <;> rcases mx_cases (mx (textRun a) (textRun b)) (textRun c) with g | g <;> rcases mx_cases wd (mx (mx (textRun a) (textRun b)) (textRun c) + 1) with f | f <;> omega
theorem ev_merge {a b c g0 g1 g2 : ByteArray} {st wd fv : Int} (ho : Okay g0 g1 g2 st wd fv) (hg : g0.size + g1.size + g2.size ≤ 500) (ha : a.size ≤ 250) (hb : b.size ≤ 250) (hc : c.size ≤ 250) :
  ∃ d lp rp cs t, Merged (splitB a) (splitB b) (splitB c) lp rp cs ∧ cs.length ≤ 501 ∧ t = (printP (docB st fv g0 g1 g2 (splitB a) (splitB b) (splitB c) cs) (widthB wd a b c)).1 ∧ t.size ≤ 10000000 ∧
   Ev (fun k => textsF k a b c g0 g1 g2 st wd fv) (d, lp, rp, cs, t, widthB wd a b c, countB (splitB a) (splitB b) (splitB c) cs, 0) := by
 obtain ⟨lp, rp, cs, h⟩ := merged_of a b c (by omega) (by omega) (by omega)
 have q1 := (chunk_count h.steps).1
 have q2 := splitB_length a
 have hle := docB_le (st := st) (fv := fv) (cs := cs) (g0 := g0) (g1 := g1) (g2 := g2) (B := splitB a) (L := splitB b) (R := splitB c) (by rw [cat_split]; exact ha) (by rw [cat_split]; exact hb) (by rw [cat_split]; exact hc) hg (by omega)
 have hp := printP_le (docB st fv g0 g1 g2 (splitB a) (splitB b) (splitB c) cs) (widthB wd a b c) (widthB_300 ho.wid.2 ha hb hc)
 exact ⟨_, lp, rp, cs, _, h, by omega, rfl, by omega, ev_texts ho h (by omega) (by omega) (fun x hx => by have := sumP_mem hx; omega)⟩
theorem again_facts {x y z g0 g1 g2 : ByteArray} {st wd fv : Int} (ho : Okay g0 g1 g2 st wd fv) (hg : g0.size + g1.size + g2.size ≤ 500) (sx : x.size ≤ 250) (sy : y.size ≤ 250) (sz : z.size ≤ 250) :
  ∃ (k1 k2 k3 k4 : Nat) (d1 d2 d3 d4 : List PP) (lp1 rp1 lp2 rp2 lp3 rp3 lp4 rp4 : List SP) (cs1 cs2 cs3 cs4 : List SC) (W1 W2 W3 W4 n : Int) (t : ByteArray), textsF k1 x y z g0 g1 g2 st wd fv = some (d1, lp1, rp1, cs1, t, W1, n, 0) ∧ textsF k2 x t t g0 g1 g2 st wd fv = some (d2, lp2, rp2, cs2, t, W2, 0, 0) ∧
   textsF k3 x t x g0 g1 g2 st wd fv = some (d3, lp3, rp3, cs3, t, W3, 0, 0) ∧ textsF k4 t x x g0 g1 g2 st wd fv = some (d4, lp4, rp4, cs4, x, W4, 0, 0) := by
 obtain ⟨d1, lp1, rp1, cs1, t, m1, _, _, ht, e1⟩ := ev_merge ho hg sx sy sz
 obtain ⟨d2, lp2, rp2, cs2, m2, e2⟩ := ev_texts_both (a := x) (b := t) ho (by omega) (by omega)
 obtain ⟨d3, lp3, rp3, cs3, m3, e3⟩ := ev_texts_right (a := x) (b := t) ho (by omega) (by omega)
 obtain ⟨d4, lp4, rp4, cs4, m4, e4⟩ := ev_texts_both (a := t) (b := x) ho (by omega) (by omega)
 obtain ⟨k1, h1⟩ := e1.get
 obtain ⟨k2, h2⟩ := e2.get
 obtain ⟨k3, h3⟩ := e3.get
 obtain ⟨k4, h4⟩ := e4.get
 exact ⟨k1, k2, k3, k4, d1, d2, d3, d4, lp1, rp1, lp2, rp2, lp3, rp3, lp4, rp4, cs1, cs2, cs3, cs4, _, _, _, _, _, t, h1, h2, h3, h4⟩
set_option maxHeartbeats 8000000 in
set_option maxRecDepth 100000 in
theorem again_no {a0 a1 a2 g0 g1 g2 : ByteArray} {st wd fv : Int} {w : World} (s0 : g0.size ≤ 140737488351232) (s1 : g1.size ≤ 140737488351232) (s2 : g2.size ≤ 140737488351232) (hf : ¬ g0.size + g1.size + g2.size ≤ 500) :
  Calls Try.prog 16 #[.agg #[.string a0, .string a1, .string a2], .agg #[.int .i64 st, .int .i64 wd, .int .i64 fv, .string g0, .string g1, .string g2]] w fun e w' => e = .returned (.bool true) ∧ Below w.heap.size w w' := by
 have HF := Aside0.mk (fun W => few_bool (st := st) (wd := wd) (fv := fv) s0 s1 s2 W)
 rw [decide_eq_false hf] at HF
 have HT := Aside0.mk (fun W => told12_calls W)
 clear s0 s1 s2 hf
 go_enter Try.func16, Try.ntmps16
 go_wp2_with (first
  | (go_at_call 68; (with_reducible refine (HF.out _).mono ?_); rintro e w1 ⟨rfl, hb⟩; have HB := Aside0.mk (below_step (below_alloc (below_alloc (Below.refl _ _) _) _) hb); have HT3 := Aside0.mk (af2 hb); have HH3 := Aside0.mk (af4 hb); clear hb)
  | (go_at_call 69; (with_reducible refine (HT.out _).mono ?_); rintro e w2 ⟨rfl, hb⟩; have HB2 := Aside0.mk (below_step HB.out hb); clear hb))
 go_ret
 exact ⟨rfl, HB2.out⟩
set_option maxHeartbeats 16000000 in
set_option maxRecDepth 100000 in
theorem again_yes {a0 a1 a2 g0 g1 g2 : ByteArray} {st wd fv : Int} {w : World} (s0 : g0.size ≤ 140737488351232) (s1 : g1.size ≤ 140737488351232) (s2 : g2.size ≤ 140737488351232) (hf : g0.size + g1.size + g2.size ≤ 500) :
  Calls Try.prog 16 #[.agg #[.string a0, .string a1, .string a2], .agg #[.int .i64 st, .int .i64 wd, .int .i64 fv, .string g0, .string g1, .string g2]] w fun e w' => e = .returned (.bool true) ∧ Below w.heap.size w w' := by
 have HF := Aside0.mk (fun W => few_bool (st := st) (wd := wd) (fv := fv) s0 s1 s2 W)
 rw [decide_eq_true hf] at HF
 have HT := Aside0.mk (fun W => told12_calls W)
 obtain ⟨x, hx, sx⟩ := short_f a0
 obtain ⟨y, hy, sy⟩ := short_f a1
 obtain ⟨z, hz, sz⟩ := short_f a2
 have HX := Aside0.mk (fun W => tripartitelaw12_Short.calls a0 x W hx)
 have HY := Aside0.mk (fun W => tripartitelaw12_Short.calls a1 y W hy)
 have HZ := Aside0.mk (fun W => tripartitelaw12_Short.calls a2 z W hz)
 obtain ⟨l0, l1, l2, st', wd', ho, hg, he⟩ := ev_options2 st wd fv g0 g1 g2 hf
 obtain ⟨ko, hk⟩ := he.get
 have HO := Aside0.mk (fun W => tripartitelaw12_Options.calls ko st wd fv g0 g1 g2 l0 l1 l2 st' wd' 0 W hk)
 obtain ⟨k1, k2, k3, k4, d1, d2, d3, d4, lp1, rp1, lp2, rp2, lp3, rp3, lp4, rp4, cs1, cs2, cs3, cs4, W1, W2, W3, W4, n, t, h1, h2, h3, h4⟩ := again_facts ho hg sx sy sz
 have H1 := Aside0.mk (fun W => texts_told h1 W)
 have H2 := Aside0.mk (fun W => texts_told h2 W)
 have H3 := Aside0.mk (fun W => texts_told h3 W)
 have H4 := Aside0.mk (fun W => texts_told h4 W)
 have tkX : True := trivial
 have tkY : True := trivial
 have tkZ : True := trivial
 clear s0 s1 s2 hf hx sx hy sy hz sz ho hg he hk h1 h2 h3 h4
 go_enter Try.func16, Try.ntmps16
 go_wp2_with (first
  | (go_at_call 68; (with_reducible refine (HF.out _).mono ?_); rintro e w1 ⟨rfl, hb⟩; have HB := Aside0.mk (below_step (below_alloc (below_alloc (Below.refl _ _) _) _) hb); have HT3 := Aside0.mk (af2 hb); have HH3 := Aside0.mk (af4 hb); clear hb))
 have q0 := (blk_cell HT3.out 0).trans (rfl : _ = some (Value.string a0))
 have q1 := (blk_cell HT3.out 1).trans (rfl : _ = some (Value.string a1))
 have q2 := (blk_cell HT3.out 2).trans (rfl : _ = some (Value.string a2))
 have HQ : Aside0 (Below w1.heap.size w1 w1.drew) := ⟨below_drew (Below.refl _ _)⟩
 go_region_held3 (fun w' => w'.cell? ⟨w.heap.size, 0, none⟩ = some (.string a0) ∧ w'.cell? ⟨w.heap.size, 1, none⟩ = some (.string a1) ∧ w'.cell? ⟨w.heap.size, 2, none⟩ = some (.string a2))
  ((refine (fun (hb : Below w1.heap.size w1 _) => ⟨(hb.cell (World.block_lt_of_cell? w1 _ q0)).trans q0, (hb.cell (World.block_lt_of_cell? w1 _ q1)).trans q1, (hb.cell (World.block_lt_of_cell? w1 _ q2)).trans q2⟩) ?_; exact HQ.out))
  (first
   | ((refine Go.Proofs.YtfiamddinkokbaaW.PrintLast.goes_ Try.func57 (by kernel_rfl) rfl #[.string a0] (by rfl) rfl rfl (by (try simp only [List.map_toArray, List.map_cons, List.map_nil]); rfl) ?_; have _t := tkX; refine (HX.out _).mono ?_; rintro e wa ⟨rfl, hb⟩; have hq := below_step HQ.out hb; clear tkX HQ hb; have HQ := Aside0.mk hq; clear hq; refine ⟨_, rfl, ?_⟩))
   | ((refine Go.Proofs.YtfiamddinkokbaaW.PrintLast.goes_ Try.func57 (by kernel_rfl) rfl #[.string a1] (by rfl) rfl rfl (by (try simp only [List.map_toArray, List.map_cons, List.map_nil]); rfl) ?_; have _t := tkY; refine (HY.out _).mono ?_; rintro e wb ⟨rfl, hb⟩; have hq := below_step HQ.out hb; clear tkY HQ hb; have HQ := Aside0.mk hq; clear hq; refine ⟨_, rfl, ?_⟩))
   | ((refine Go.Proofs.YtfiamddinkokbaaW.PrintLast.goes_ Try.func57 (by kernel_rfl) rfl #[.string a2] (by rfl) rfl rfl (by (try simp only [List.map_toArray, List.map_cons, List.map_nil]); rfl) ?_; have _t := tkZ; refine (HZ.out _).mono ?_; rintro e w3 ⟨rfl, hb⟩; have hq := below_step HQ.out hb; clear tkZ HQ hb; have HQ := Aside0.mk hq; clear hq; refine ⟨_, rfl, ?_⟩)))
 have HB3 := Aside0.mk (below_step HB.out HQ.out)
 have HX53 := Aside0.mk (after_call HQ.out HH3.out)
 clear q0 q1 q2 HQ HB HT3 HH3 HX HY HZ HF
 have m0 := (blk_cell HX53.out 0).trans (rfl : _ = some (Value.int .i64 st))
 have m1 := (blk_cell HX53.out 1).trans (rfl : _ = some (Value.int .i64 wd))
 have m2 := (blk_cell HX53.out 2).trans (rfl : _ = some (Value.int .i64 fv))
 have m3 := (blk_cell HX53.out 3).trans (rfl : _ = some (Value.string g0))
 have m4 := (blk_cell HX53.out 4).trans (rfl : _ = some (Value.string g1))
 have m5 := (blk_cell HX53.out 5).trans (rfl : _ = some (Value.string g2))
 go_wp2_with (first
  | (go_at_call 59; (with_reducible refine (HO.out _).mono ?_); rintro e w4 ⟨rfl, hb⟩; have HB4 := Aside0.mk (below_step HB3.out hb); clear hb m0 m1 m2 m3 m4 m5)
  | (go_at_call 58; (with_reducible refine (H1.out _).mono ?_); rintro e w5 ⟨aA0, aA1, aA2, aA3, an0, ac0, an1, ac1, an2, ac2, ac3, rfl, hr, hb⟩; have HB5 := Aside0.mk (below_step (below_alloc HB4.out _) hb); have HO5 := Aside0.mk (after_alloc hb); clear hb hr; have o0 : ∀ o, (w5.alloc o).cell? ⟨w4.heap.size, 0, none⟩ = some (Value.string l0) := fun o => tr1 o ((blk_cell HO5.out 0).trans rfl); have o1 : ∀ o, (w5.alloc o).cell? ⟨w4.heap.size, 1, none⟩ = some (Value.string l1) := fun o => tr1 o ((blk_cell HO5.out 1).trans rfl); have o2 : ∀ o, (w5.alloc o).cell? ⟨w4.heap.size, 2, none⟩ = some (Value.string l2) := fun o => tr1 o ((blk_cell HO5.out 2).trans rfl); have o3 : ∀ o, (w5.alloc o).cell? ⟨w4.heap.size, 3, none⟩ = some (Value.int .i64 st') := fun o => tr1 o ((blk_cell HO5.out 3).trans rfl); have o4 : ∀ o, (w5.alloc o).cell? ⟨w4.heap.size, 4, none⟩ = some (Value.int .i64 wd') := fun o => tr1 o ((blk_cell HO5.out 4).trans rfl); have o5 : ∀ o, (w5.alloc o).cell? ⟨w4.heap.size, 5, none⟩ = some (Value.int .i64 0) := fun o => tr1 o ((blk_cell HO5.out 5).trans rfl); have r4 : ∀ v0 v1 v2 v3 v5 v6 : Value, (w5.alloc (.cells #[v0, v1, v2, v3, .string t, v5, v6] 80)).cell? ⟨w5.heap.size, 4, none⟩ = some (Value.string t) := fun _ _ _ _ _ _ => (blk_cell (World.alloc_heap_new _ _) 4).trans rfl)
  | (go_at_call 58; (with_reducible refine (H2.out _).mono ?_); rintro e w6 ⟨bA0, bA1, bA2, bA3, bn0, bc0, bn1, bc1, bn2, bc2, bc3, rfl, hr, hb⟩; have HB6 := Aside0.mk (below_step (below_alloc HB5.out _) hb); have HO6 := Aside0.mk (after_call hb (blk_alloc HO5.out _)); have HR6 := Aside0.mk (after_alloc hb); clear hb hr o0 o1 o2 o3 o4 o5 r4; have o0 : ∀ o, (w6.alloc o).cell? ⟨w4.heap.size, 0, none⟩ = some (Value.string l0) := fun o => tr1 o ((blk_cell HO6.out 0).trans rfl); have o1 : ∀ o, (w6.alloc o).cell? ⟨w4.heap.size, 1, none⟩ = some (Value.string l1) := fun o => tr1 o ((blk_cell HO6.out 1).trans rfl); have o2 : ∀ o, (w6.alloc o).cell? ⟨w4.heap.size, 2, none⟩ = some (Value.string l2) := fun o => tr1 o ((blk_cell HO6.out 2).trans rfl); have o3 : ∀ o, (w6.alloc o).cell? ⟨w4.heap.size, 3, none⟩ = some (Value.int .i64 st') := fun o => tr1 o ((blk_cell HO6.out 3).trans rfl); have o4 : ∀ o, (w6.alloc o).cell? ⟨w4.heap.size, 4, none⟩ = some (Value.int .i64 wd') := fun o => tr1 o ((blk_cell HO6.out 4).trans rfl); have o5 : ∀ o, (w6.alloc o).cell? ⟨w4.heap.size, 5, none⟩ = some (Value.int .i64 0) := fun o => tr1 o ((blk_cell HO6.out 5).trans rfl); have r4 : ∀ o, (w6.alloc o).cell? ⟨w5.heap.size, 4, none⟩ = some (Value.string t) := fun o => tr1 o ((blk_cell HR6.out 4).trans rfl))
  | (go_at_call 58; (with_reducible refine (H3.out _).mono ?_); rintro e w7 ⟨dA0, dA1, dA2, dA3, dn0, dc0, dn1, dc1, dn2, dc2, dc3, rfl, hr, hb⟩; have HB7 := Aside0.mk (below_step (below_alloc HB6.out _) hb); have HO7 := Aside0.mk (after_call hb (blk_alloc HO6.out _)); have HR7 := Aside0.mk (after_call hb (blk_alloc HR6.out _)); have HS7 := Aside0.mk (after_alloc hb); clear hb hr o0 o1 o2 o3 o4 o5 r4; have o0 : ∀ o, (w7.alloc o).cell? ⟨w4.heap.size, 0, none⟩ = some (Value.string l0) := fun o => tr1 o ((blk_cell HO7.out 0).trans rfl); have o1 : ∀ o, (w7.alloc o).cell? ⟨w4.heap.size, 1, none⟩ = some (Value.string l1) := fun o => tr1 o ((blk_cell HO7.out 1).trans rfl); have o2 : ∀ o, (w7.alloc o).cell? ⟨w4.heap.size, 2, none⟩ = some (Value.string l2) := fun o => tr1 o ((blk_cell HO7.out 2).trans rfl); have o3 : ∀ o, (w7.alloc o).cell? ⟨w4.heap.size, 3, none⟩ = some (Value.int .i64 st') := fun o => tr1 o ((blk_cell HO7.out 3).trans rfl); have o4 : ∀ o, (w7.alloc o).cell? ⟨w4.heap.size, 4, none⟩ = some (Value.int .i64 wd') := fun o => tr1 o ((blk_cell HO7.out 4).trans rfl); have o5 : ∀ o, (w7.alloc o).cell? ⟨w4.heap.size, 5, none⟩ = some (Value.int .i64 0) := fun o => tr1 o ((blk_cell HO7.out 5).trans rfl); have r4 : ∀ o, (w7.alloc o).cell? ⟨w5.heap.size, 4, none⟩ = some (Value.string t) := fun o => tr1 o ((blk_cell HR7.out 4).trans rfl))
  | (go_at_call 58; (with_reducible refine (H4.out _).mono ?_); rintro e w8 ⟨fA0, fA1, fA2, fA3, fn0, fc0, fn1, fc1, fn2, fc2, fc3, rfl, hr, hb⟩; have HB8 := Aside0.mk (below_step (below_alloc HB7.out _) hb); have HR8 := Aside0.mk (after_call hb (blk_alloc HR7.out _)); have HS8 := Aside0.mk (after_call hb (blk_alloc HS7.out _)); have HU8 := Aside0.mk (after_alloc hb); clear hb hr o0 o1 o2 o3 o4 o5 r4)
  | (go_at_call 69; (with_reducible refine (HT.out _).mono ?_); rintro e w9 ⟨rfl, hb⟩; have HB9 := Aside0.mk (below_step (below_alloc HB8.out _) hb); have q4 := (blk_cell (after_call hb (blk_alloc HR8.out _)) 4).trans (rfl : _ = some (Value.string t)); have s4 := (blk_cell (after_call hb (blk_alloc HS8.out _)) 4).trans (rfl : _ = some (Value.string t)); have u4 := (blk_cell (after_call hb (blk_alloc HU8.out _)) 4).trans (rfl : _ = some (Value.string t)); have v4 := (blk_cell (after_alloc hb) 4).trans (rfl : _ = some (Value.string x)); clear hb))
 go_ret
 exact ⟨rfl, HB9.out⟩
theorem mergeAgain_walk (a0 a1 a2 : ByteArray) (st wd fv : Int) (g0 g1 g2 : ByteArray) (s0 : g0.size ≤ 140737488351232) (s1 : g1.size ≤ 140737488351232) (s2 : g2.size ≤ 140737488351232) (w : World) :
  Calls Try.prog 16 #[.agg #[.string a0, .string a1, .string a2], .agg #[.int .i64 st, .int .i64 wd, .int .i64 fv, .string g0, .string g1, .string g2]] w fun e w' => e = .returned (.bool true) ∧ Below w.heap.size w w' := by
 by_cases hf : g0.size + g1.size + g2.size ≤ 500
 ·exact again_yes s0 s1 s2 hf
 ·exact again_no s0 s1 s2 hf
end Go.Proofs.Ytfiamddinkokbaa.F
end

section
namespace Go.Proofs.Ytfiamddinkokbaa.F
open Go.RowKit Go.Proofs.YtfiamddinkokbaaW.PrintWords Go.ChangeShapes Go.WideShapes Go.Deep Go.Joins
section
variable {H : Type} {enc : TypeId × Value → H}
theorem back_how (W : World) (b : Nat) (sp : Nat → Bool) (hd : Bool) (st wd fv : Int) (g0 g1 g2 : ByteArray) (w0 : (Lit.int .i64 st).wf = true) (w1 : (Lit.int .i64 wd).wf = true) (w2 : (Lit.int .i64 fv).wf = true) (s0 : g0.size ≤ maxLen) (s1 : g1.size ≤ maxLen) (s2 : g2.size ≤ maxLen) :
  DataW.Trod enc Try.prog W b sp hd 74 (.agg #[.int .i64 st, .int .i64 wd, .int .i64 fv, .string g0, .string g1, .string g2]) (.agg [.lit (.int .i64 st), .lit (.int .i64 wd), .lit (.int .i64 fv), .lit (.string g0.data.toList), .lit (.string g1.data.toList), .lit (.string g2.data.toList)]) [] := by
 have h3 := Try.underlying3
 have h9 := Try.underlying9
 have c3 : Try.prog.cellsOf 3 = 1 := by kernel_rfl
 have c9 : Try.prog.cellsOf 9 = 1 := by kernel_rfl
 have c74 : Try.prog.cellsOf 74 = 6 := by kernel_rfl
 refine ⟨2, ?_⟩
 simp [DataW.trod, Try.underlying74, h3, h9, c3, c9, c74, w0, w1, w2, s0, s1, s2, Value.cells]
theorem back_three (W : World) (b : Nat) (sp : Nat → Bool) (hd : Bool) (a0 a1 a2 : ByteArray) (s0 : a0.size ≤ maxLen) (s1 : a1.size ≤ maxLen) (s2 : a2.size ≤ maxLen) :
  DataW.Trod enc Try.prog W b sp hd 72 (.agg #[.string a0, .string a1, .string a2]) (.agg [.lit (.string a0.data.toList), .lit (.string a1.data.toList), .lit (.string a2.data.toList)]) [] := by
 have h9 := Try.underlying9
 have c9 : Try.prog.cellsOf 9 = 1 := by kernel_rfl
 have c3 : Try.prog.cellsOf 72 = 3 := by kernel_rfl
 refine ⟨2, ?_⟩
 simp [DataW.trod, Try.underlying72, h9, c9, c3, s0, s1, s2, Value.cells, List.range, List.range.loop]
set_option maxRecDepth 100000 in
theorem open_how {W : World} {b0 base : Nat} {r : Reach} {sp : Nat → Bool} {hd : Bool} {v : Value} {d : DataW H} {p : List MemPlace} {ts : List TypeId} {ds : List (DataW H)} {j : Nat}
  (hsz : (DataW.weightsEach Try.prog ts ds).all (· ≤ reachBytes) = true) (htj : ts[j]? = some 74) (hdj : ds[j]? = some d) (hv : Value.okWide Try.prog W r b0 74 v) (h : DataW.Trod enc Try.prog W base sp hd 74 v d p) :
  ∃ (st wd fv : Int) (g0 g1 g2 : ByteArray), v = .agg #[.int .i64 st, .int .i64 wd, .int .i64 fv, .string g0, .string g1, .string g2] ∧ d = .agg [.lit (.int .i64 st), .lit (.int .i64 wd), .lit (.int .i64 fv), .lit (.string g0.data.toList), .lit (.string g1.data.toList), .lit (.string g2.data.toList)] ∧ p = [] ∧
   ((Lit.int .i64 st).wf = true ∧ (Lit.int .i64 wd).wf = true ∧ (Lit.int .i64 fv).wf = true) ∧ (g0.size ≤ 140737488351232 ∧ g1.size ≤ 140737488351232 ∧ g2.size ≤ 140737488351232) := by
 have hs := Try.underlying74
 have hi := Try.underlying3
 have hg := Try.underlying9
 obtain ⟨cs, rfl, hcs⟩ := okWide_struct hs hv
 have hc6 : cs.size = 6 := hcs.trans (by kernel_rfl)
 obtain ⟨l⟩ := cs
 match l, hc6 with
 | [c0, c1, c2, c3, c4, c5], _ =>
  obtain ⟨fuel, hf⟩ := h
  obtain ⟨xs, n, _, hx, _, hlen, hgt⟩ := DataW.trod_struct hs hf
  have k3 : Try.prog.cellsOf 3 = 1 := by kernel_rfl
  have k9 : Try.prog.cellsOf 9 = 1 := by kernel_rfl
  match xs, hlen with
  | [y0, y1, y2, y3, y4, y5], _ =>
   have t0 := hgt 0 _ rfl
   have t1 := hgt 1 _ rfl
   have t2 := hgt 2 _ rfl
   have t3 := hgt 3 _ rfl
   have t4 := hgt 4 _ rfl
   have t5 := hgt 5 _ rfl
   simp [Value.cells, k3, k9] at t0 t1 t2 t3 t4 t5
   obtain ⟨st, e0, rfl, w0⟩ := DataW.trod_int hi t0
   obtain ⟨wd, e1, rfl, w1⟩ := DataW.trod_int hi t1
   obtain ⟨fv, e2, rfl, w2⟩ := DataW.trod_int hi t2
   obtain ⟨g0, e3, rfl, s0⟩ := DataW.trod_string hg t3
   obtain ⟨g1, e4, rfl, s1⟩ := DataW.trod_string hg t4
   obtain ⟨g2, e5, rfl, s2⟩ := DataW.trod_string hg t5
   simp at e0 e1 e2 e3 e4 e5 hx
   subst e0 e1 e2 e3 e4 e5
   obtain ⟨rfl, rfl⟩ := hx
   have hmem : ∀ (q : Nat) (s : ByteArray), [(.lit (.int .i64 st) : DataW H), .lit (.int .i64 wd), .lit (.int .i64 fv), .lit (.string g0.data.toList), .lit (.string g1.data.toList), .lit (.string g2.data.toList)][q]? = some (.lit (.string s.data.toList)) → ([3, 3, 3, 9, 9, 9] : List TypeId)[q]? = some 9 → s.size ≤ 140737488351232 := by
    intro q s hq hq9
    have h1 : s.data.toList.length ∈ DataW.weights Try.prog 74 (.agg [(.lit (.int .i64 st) : DataW H), .lit (.int .i64 wd), .lit (.int .i64 fv), .lit (.string g0.data.toList), .lit (.string g1.data.toList), .lit (.string g2.data.toList)]) := by
     simp only [DataW.weights, hs]
     exact DataW.weights_mem_each (j := q) (t := 9) hq9 hq _ (by simp [DataW.weights])
    have := List.all_eq_true.1 hsz _ (DataW.weights_mem_each htj hdj _ h1)
    rw [Array.length_toList] at this
    have hr : reachBytes = 140737488351232 := rfl
    simpa [hr] using this
   exact ⟨st, wd, fv, g0, g1, g2, rfl, rfl, rfl, ⟨w0, w1, w2⟩, hmem 3 g0 rfl rfl, hmem 4 g1 rfl rfl, hmem 5 g2 rfl rfl⟩
set_option maxRecDepth 100000 in
theorem open_three {W : World} {b0 base : Nat} {r : Reach} {sp : Nat → Bool} {hd : Bool} {v : Value} {d : DataW H} {p : List MemPlace} {ts : List TypeId} {ds : List (DataW H)} {j : Nat}
  (hsz : (DataW.weightsEach Try.prog ts ds).all (· ≤ reachBytes) = true) (htj : ts[j]? = some 72) (hdj : ds[j]? = some d) (hv : Value.okWide Try.prog W r b0 72 v) (h : DataW.Trod enc Try.prog W base sp hd 72 v d p) :
  ∃ (a0 a1 a2 : ByteArray), v = .agg #[.string a0, .string a1, .string a2] ∧ d = .agg [.lit (.string a0.data.toList), .lit (.string a1.data.toList), .lit (.string a2.data.toList)] ∧ p = [] ∧ (a0.size ≤ 140737488351232 ∧ a1.size ≤ 140737488351232 ∧ a2.size ≤ 140737488351232) := by
 have hs := Try.underlying72
 have hg := Try.underlying9
 have hc : ∃ cs : Array Value, v = .agg cs ∧ cs.size = 3 := by
  simp only [Value.okWide, hs] at hv
  obtain ⟨cs, h1, h2, _⟩ := hv
  exact ⟨cs, h1, h2.trans (by kernel_rfl)⟩
 obtain ⟨cs, rfl, hc3⟩ := hc
 obtain ⟨l⟩ := cs
 match l, hc3 with
 | [c0, c1, c2], _ =>
  obtain ⟨fuel, hf⟩ := h
  have k9 : Try.prog.cellsOf 9 = 1 := by kernel_rfl
  obtain ⟨y0, y1, y2, n, hx, t0, t1, t2⟩ := trod_array3 hs k9 hf
  obtain ⟨a0, e0, rfl, s0⟩ := DataW.trod_string hg t0
  obtain ⟨a1, e1, rfl, s1⟩ := DataW.trod_string hg t1
  obtain ⟨a2, e2, rfl, s2⟩ := DataW.trod_string hg t2
  simp at e0 e1 e2 hx
  subst e0 e1 e2
  obtain ⟨rfl, rfl⟩ := hx
  have hmem : ∀ s : ByteArray, (.lit (.string s.data.toList) : DataW H) ∈ [(.lit (.string a0.data.toList) : DataW H), .lit (.string a1.data.toList), .lit (.string a2.data.toList)] → s.size ≤ 140737488351232 := by
   intro s hq
   have h1 : s.data.toList.length ∈ DataW.weights Try.prog 72 (.agg [(.lit (.string a0.data.toList) : DataW H), .lit (.string a1.data.toList), .lit (.string a2.data.toList)]) := by
    simp only [DataW.weights, hs]
    exact weights_all_mem _ _ hq (by simp [DataW.weights])
   have := List.all_eq_true.1 hsz _ (DataW.weights_mem_each htj hdj _ h1)
   rw [Array.length_toList] at this
   have hr : reachBytes = 140737488351232 := rfl
   simpa [hr] using this
  exact ⟨a0, a1, a2, rfl, rfl, rfl, hmem a0 (by simp), hmem a1 (by simp), hmem a2 (by simp)⟩
end
end Go.Proofs.Ytfiamddinkokbaa.F
end
