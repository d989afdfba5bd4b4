/- Texts joined into one file (wip/tools/pack.py): SpansWalk, OpenHow -/
import Derived.Test.YtfiamddinkokbaaSP41
import Derived.Test.YtfiamddinkokbaaSP14
import Derived.Test.YtfiamddinkokbaaSP16
import Derived.Test.YtfiamddinkokbaaSP24
import Derived.Test.YtfiamddinkokbaaSP25
import Derived.Test.YtfiamddinkokbaaSP36
import Derived.Laws.IdiomArrays
import Derived.OpenShut
set_option linter.unusedVariables false
set_option linter.unusedSimpArgs false
section
namespace Go.Proofs.Ytfiamddinkokbaa.F
open Go.RowKit Go.Shelf Go.Proofs.YtfiamddinkokbaaW.PrintWords
def SpanStep (B L R : List ByteArray) (c : SC) (u v t u' v' t' : ByteArray) : Prop := ∃ (p q r : List ByteArray) (jp jq jr : ByteArray) (kc : Nat) (cv : Int), chunk_Span_Cut.f c.f1.f0 c.f1.f1 B = some p ∧ chunk_Span_Cut.f c.f2.f0 c.f2.f1 L = some q ∧ chunk_Span_Cut.f c.f3.f0 c.f3.f1 R = some r ∧ lines_Join.f p = some jp ∧ lines_Join.f q = some jq ∧ lines_Join.f r = some jr ∧ u' = u ++ jp ∧ v' = v ++ jq ∧ t' = t ++ jr ∧ u.size + jp.size ≤ 1000 ∧ v.size + jq.size ≤ 1000 ∧ t.size + jr.size ≤ 1000 ∧
 chunk_Chunk_Class.f kc c.f0 c.f1.f0 c.f1.f1 c.f2.f0 c.f2.f1 c.f3.f0 c.f3.f1 B L R = some cv ∧ decide (cv = 0) = c.f0
theorem cls_zero (c : SC) (B L R : List ByteArray) : decide (clsI c B L R = 0) = c.f0 := by
 unfold clsI
 cases h : c.f0 with
 | true => rfl
 | false =>
  rw [if_neg (by simp)]
  split
  ·rfl
  split
  ·rfl
  split <;> rfl
theorem flat_take {g : SC → List ByteArray} {cs : List SC} {x : ByteArray} (h : catB (cs.flatMap g) = x) {i : Nat} (hi : i < cs.length) :
  catB ((cs.take (i + 1)).flatMap g) = catB ((cs.take i).flatMap g) ++ catB (g cs[i]) ∧ (catB ((cs.take i).flatMap g)).size + (catB (g cs[i])).size ≤ x.size := by
 have e : cs.take (i + 1) = cs.take i ++ [cs[i]] := by rw [List.take_add_one, List.getElem?_eq_getElem hi]; rfl
 have e1 : catB ((cs.take (i + 1)).flatMap g) = catB ((cs.take i).flatMap g) ++ catB (g cs[i]) := by rw [e, List.flatMap_append, catB_append, List.flatMap_cons, List.flatMap_nil, List.append_nil]
 refine ⟨e1, ?_⟩
 have e2 := catB_append ((cs.take (i + 1)).flatMap g) ((cs.drop (i + 1)).flatMap g)
 rw [← List.flatMap_append, List.take_append_drop, h, e1] at e2
 rw [e2, ByteArray.size_append, ByteArray.size_append]; omega
theorem span_step {x y z : ByteArray} {lp rp : List SP} {cs : List SC} (h : Merged (splitB x) (splitB y) (splitB z) lp rp cs) (sx : x.size ≤ 250) (sy : y.size ≤ 250) (sz : z.size ≤ 250) (i : Nat) (hi : i < cs.length) :
  SpanStep (splitB x) (splitB y) (splitB z) (rd_T91 cs (i : Int)) (catB ((cs.take i).flatMap fun c => spanL c.f1 (splitB x))) (catB ((cs.take i).flatMap fun c => spanL c.f2 (splitB y))) (catB ((cs.take i).flatMap fun c => spanL c.f3 (splitB z)))
   (catB ((cs.take (i + 1)).flatMap fun c => spanL c.f1 (splitB x))) (catB ((cs.take (i + 1)).flatMap fun c => spanL c.f2 (splitB y))) (catB ((cs.take (i + 1)).flatMap fun c => spanL c.f3 (splitB z))) := by
 have hr : rd_T91 cs (i : Int) = cs[i] := by unfold rd_T91; rw [Int.toNat_natCast, List.getD_eq_getElem?_getD, List.getElem?_eq_getElem hi]; rfl
 rw [hr]
 obtain ⟨m1, m2, m3⟩ := merged_cat h
 obtain ⟨t1, z1⟩ := flat_take m1 hi
 obtain ⟨t2, z2⟩ := flat_take m2 hi
 obtain ⟨t3, z3⟩ := flat_take m3 hi
 have nx := splitB_length x
 have ny := splitB_length y
 have nz := splitB_length z
 have len : ∀ (s : SSp) (l : List ByteArray), (spanL s l).length ≤ l.length := fun s l => by
  unfold spanL; split
  ·exact Nat.zero_le _
  ·rw [List.length_drop, List.length_take]; omega
 have l1 := len cs[i].f1 (splitB x)
 have l2 := len cs[i].f2 (splitB y)
 have l3 := len cs[i].f3 (splitB z)
 obtain ⟨kc, hk⟩ := (ev_class cs[i] (splitB x) (splitB y) (splitB z) (by omega) (by omega) (by omega)).get
 exact ⟨_, _, _, _, _, _, kc, _, span_cut _ _ _ (by omega), span_cut _ _ _ (by omega), span_cut _ _ _ (by omega), lines_join _ (by show (spanL cs[i].f1 (splitB x)).length ≤ _; omega) (by show (catB (spanL cs[i].f1 (splitB x))).size ≤ _; omega), lines_join _ (by show (spanL cs[i].f2 (splitB y)).length ≤ _; omega) (by show (catB (spanL cs[i].f2 (splitB y))).size ≤ _; omega), lines_join _ (by show (spanL cs[i].f3 (splitB z)).length ≤ _; omega) (by show (catB (spanL cs[i].f3 (splitB z))).size ≤ _; omega), t1, t2, t3, Nat.le_trans z1 (Nat.le_trans sx (by decide)), Nat.le_trans z2 (Nat.le_trans sy (by decide)), Nat.le_trans z3 (Nat.le_trans sz (by decide)), hk, cls_zero _ _ _ _⟩
set_option maxHeartbeats 2000000 in
theorem spans_facts {x y z g0 g1 g2 : ByteArray} {st wd : Int} (ho : Okay g0 g1 g2 st wd 0) (hg : g0.size + g1.size + g2.size ≤ 500) (sx : x.size ≤ 250) (sy : y.size ≤ 250) (sz : z.size ≤ 250) :
  ∃ (k1 m : Nat) (B L R : List ByteArray) (d1 : List PP) (lp1 rp1 : List SP) (cs1 : List SC) (W1 n : Int) (t1 : ByteArray) (U V T : Nat → ByteArray), textsF k1 x y z g0 g1 g2 st wd 0 = some (d1, lp1, rp1, cs1, t1, W1, n, 0) ∧
   lines_Split.f x = some B ∧ lines_Split.f y = some L ∧ lines_Split.f z = some R ∧ m ≤ 1000 ∧ cs1.length = m ∧ U 0 = ⟨#[]⟩ ∧ V 0 = ⟨#[]⟩ ∧ T 0 = ⟨#[]⟩ ∧ U m = x ∧ V m = y ∧ T m = z ∧ ∀ i : Nat, i < m → SpanStep B L R (rd_T91 cs1 (i : Int)) (U i) (V i) (T i) (U (i + 1)) (V (i + 1)) (T (i + 1)) := by
 obtain ⟨d1, lp1, rp1, cs1, t1, m1, hc, _, _, e1⟩ := ev_merge ho hg sx sy sz
 obtain ⟨k1, h1⟩ := e1.get
 obtain ⟨q1, q2, q3⟩ := merged_cat m1
 refine ⟨k1, cs1.length, splitB x, splitB y, splitB z, d1, lp1, rp1, cs1, _, _, t1, fun i => catB ((cs1.take i).flatMap fun c => spanL c.f1 (splitB x)), fun i => catB ((cs1.take i).flatMap fun c => spanL c.f2 (splitB y)), fun i => catB ((cs1.take i).flatMap fun c => spanL c.f3 (splitB z)), h1,
  lines_split x (by omega), lines_split y (by omega), lines_split z (by omega), by omega, rfl, ?_, ?_, ?_, ?_, ?_, ?_, ?_⟩
 ·simp only [List.take_zero, List.flatMap_nil]; exact catB_nil
 ·simp only [List.take_zero, List.flatMap_nil]; exact catB_nil
 ·simp only [List.take_zero, List.flatMap_nil]; exact catB_nil
 ·simp only [List.take_length]; exact q1
 ·simp only [List.take_length]; exact q2
 ·simp only [List.take_length]; exact q3
 ·intro i hi; exact span_step m1 sx sy sz i hi
set_option maxHeartbeats 8000000 in
set_option maxRecDepth 100000 in
theorem spans_no {a0 a1 a2 g0 g1 g2 : ByteArray} {st wd fv : Int} {w : World} (s0 : g0.size ≤ 140737488351232) (s1 : g1.size ≤ 140737488351232) (s2 : g2.size ≤ 140737488351232) (hf : ¬ g0.size + g1.size + g2.size ≤ 500) :
  Calls Try.prog 11 #[.agg #[.string a0, .string a1, .string a2], .agg #[.int .i64 st, .int .i64 wd, .int .i64 fv, .string g0, .string g1, .string g2]] w fun e w' => e = .returned (.bool true) ∧ Below w.heap.size w w' := by
 have HF := Aside0.mk (fun W => fits_bool (st := st) (wd := wd) (fv := fv) s0 s1 s2 W)
 rw [decide_eq_false hf] at HF
 have HT := Aside0.mk (fun W => alive_calls W)
 clear s0 s1 s2 hf
 go_enter Try.func11, Try.ntmps11
 go_wp2_with (first
  | (go_at_call 55; (with_reducible refine (HF.out _).mono ?_); rintro e w1 ⟨rfl, hb⟩; have HB := Aside0.mk (below_step (below_alloc (below_alloc (Below.refl _ _) _) _) hb); have HT3 := Aside0.mk (af2 hb); have HH3 := Aside0.mk (af4 hb); clear hb)
  | (go_at_call 56; (with_reducible refine (HT.out _).mono ?_); rintro e w2 ⟨rfl, hb⟩; have HB2 := Aside0.mk (below_step HB.out hb); clear hb))
 go_ret
 exact ⟨rfl, HB2.out⟩
set_option maxHeartbeats 16000000 in
set_option maxRecDepth 100000 in
theorem spans_yes {a0 a1 a2 g0 g1 g2 : ByteArray} {st wd fv : Int} {w : World} (s0 : g0.size ≤ 140737488351232) (s1 : g1.size ≤ 140737488351232) (s2 : g2.size ≤ 140737488351232) (hf : g0.size + g1.size + g2.size ≤ 500) :
  Calls Try.prog 11 #[.agg #[.string a0, .string a1, .string a2], .agg #[.int .i64 st, .int .i64 wd, .int .i64 fv, .string g0, .string g1, .string g2]] w fun e w' => e = .returned (.bool true) ∧ Below w.heap.size w w' := by
 have HF := Aside0.mk (fun W => fits_bool (st := st) (wd := wd) (fv := fv) s0 s1 s2 W)
 rw [decide_eq_true hf] at HF
 have HT := Aside0.mk (fun W => alive_calls W)
 obtain ⟨x, hx, sx⟩ := short_f a0
 obtain ⟨y, hy, sy⟩ := short_f a1
 obtain ⟨z, hz, sz⟩ := short_f a2
 have HX := Aside0.mk (fun W => tripartitelaw12_Short.calls a0 x W hx)
 have HY := Aside0.mk (fun W => tripartitelaw12_Short.calls a1 y W hy)
 have HZ := Aside0.mk (fun W => tripartitelaw12_Short.calls a2 z W hz)
 obtain ⟨l0, l1, l2, st', wd', ho, hg, he⟩ := ev_options2 st wd fv g0 g1 g2 hf
 obtain ⟨ko, hk⟩ := he.get
 have HO := Aside0.mk (fun W => tripartitelaw12_Options.calls ko st wd fv g0 g1 g2 l0 l1 l2 st' wd' 0 W hk)
 obtain ⟨k1, m, B, L, R, d1, lp1, rp1, cs1, W1, n, t1, U, V, T, h1, hB, hL, hR, hm4, e1, hU0, hV0, hT0, hUm, hVm, hTm, hst⟩ := spans_facts ho hg sx sy sz
 have H1 := Aside0.mk (fun W => texts_toldN h1 e1 W)
 have HSX := Aside0.mk (fun W => lines_Split.calls x B W hB)
 have HSY := Aside0.mk (fun W => lines_Split.calls y L W hL)
 have HSZ := Aside0.mk (fun W => lines_Split.calls z R W hR)
 have HST := Aside0.mk hst
 have HE0 := Aside0.mk (And.intro hU0 (And.intro hV0 hT0))
 have HEM := Aside0.mk (And.intro hUm (And.intro hVm hTm))
 have tkX : True := trivial
 have tkY : True := trivial
 have tkZ : True := trivial
 clear s0 s1 s2 hf hx sx hy sy hz sz ho hg he hk h1 e1 hB hL hR hst hU0 hV0 hT0 hUm hVm hTm
 go_enter Try.func11, Try.ntmps11
 go_wp2_with (first
  | (go_at_call 55; (with_reducible refine (HF.out _).mono ?_); rintro e w1 ⟨rfl, hb⟩; have HB := Aside0.mk (below_step (below_alloc (below_alloc (Below.refl _ _) _) _) hb); have HT3 := Aside0.mk (af2 hb); have HH3 := Aside0.mk (af4 hb); clear hb))
 have q0 := (blk_cell HT3.out 0).trans (rfl : _ = some (Value.string a0))
 have q1 := (blk_cell HT3.out 1).trans (rfl : _ = some (Value.string a1))
 have q2 := (blk_cell HT3.out 2).trans (rfl : _ = some (Value.string a2))
 have HQ : Aside0 (Below w1.heap.size w1 w1.drew) := ⟨below_drew (Below.refl _ _)⟩
 go_region_held3 (fun w' => w'.cell? ⟨w.heap.size, 0, none⟩ = some (.string a0) ∧ w'.cell? ⟨w.heap.size, 1, none⟩ = some (.string a1) ∧ w'.cell? ⟨w.heap.size, 2, none⟩ = some (.string a2))
  ((refine (fun (hb : Below w1.heap.size w1 _) => ⟨(hb.cell (World.block_lt_of_cell? w1 _ q0)).trans q0, (hb.cell (World.block_lt_of_cell? w1 _ q1)).trans q1, (hb.cell (World.block_lt_of_cell? w1 _ q2)).trans q2⟩) ?_; exact HQ.out))
  (first
   | ((refine Go.Proofs.YtfiamddinkokbaaW.PrintLast.goes_ Try.func57 (by kernel_rfl) rfl #[.string a0] (by rfl) rfl rfl (by (try simp only [List.map_toArray, List.map_cons, List.map_nil]); rfl) ?_; have _t := tkX; refine (HX.out _).mono ?_; rintro e wa ⟨rfl, hb⟩; have hq := below_step HQ.out hb; clear tkX HQ hb; have HQ := Aside0.mk hq; clear hq; refine ⟨_, rfl, ?_⟩))
   | ((refine Go.Proofs.YtfiamddinkokbaaW.PrintLast.goes_ Try.func57 (by kernel_rfl) rfl #[.string a1] (by rfl) rfl rfl (by (try simp only [List.map_toArray, List.map_cons, List.map_nil]); rfl) ?_; have _t := tkY; refine (HY.out _).mono ?_; rintro e wb ⟨rfl, hb⟩; have hq := below_step HQ.out hb; clear tkY HQ hb; have HQ := Aside0.mk hq; clear hq; refine ⟨_, rfl, ?_⟩))
   | ((refine Go.Proofs.YtfiamddinkokbaaW.PrintLast.goes_ Try.func57 (by kernel_rfl) rfl #[.string a2] (by rfl) rfl rfl (by (try simp only [List.map_toArray, List.map_cons, List.map_nil]); rfl) ?_; have _t := tkZ; refine (HZ.out _).mono ?_; rintro e w3 ⟨rfl, hb⟩; have hq := below_step HQ.out hb; clear tkZ HQ hb; have HQ := Aside0.mk hq; clear hq; refine ⟨_, rfl, ?_⟩)))
 have HB3 := Aside0.mk (below_step HB.out HQ.out)
 have HX53 := Aside0.mk (after_call HQ.out HH3.out)
 clear q0 q1 q2 HQ HB HT3 HH3 HX HY HZ HF
 have m0 := (blk_cell HX53.out 0).trans (rfl : _ = some (Value.int .i64 st))
 have m1 := (blk_cell HX53.out 1).trans (rfl : _ = some (Value.int .i64 wd))
 have m2 := (blk_cell HX53.out 2).trans (rfl : _ = some (Value.int .i64 fv))
 have m3 := (blk_cell HX53.out 3).trans (rfl : _ = some (Value.string g0))
 have m4 := (blk_cell HX53.out 4).trans (rfl : _ = some (Value.string g1))
 have m5 := (blk_cell HX53.out 5).trans (rfl : _ = some (Value.string g2))
 go_wp2_with (first
  | (go_at_call 59; (with_reducible refine (HO.out _).mono ?_); rintro e w4 ⟨rfl, hb⟩; have HB4 := Aside0.mk (below_step HB3.out hb); clear hb m0 m1 m2 m3 m4 m5)
  | (go_at_call 58; (with_reducible refine (H1.out _).mono ?_); rintro e w5 ⟨A0, A1, A2, A3, n0, c0, n1, c1, n2, c2, c3, rfl, hr, hb⟩; have HC1 := Aside0.mk hr; have HB5 := Aside0.mk (below_step HB4.out hb); clear hb hr)
  | (go_at_call 56; (with_reducible refine (HT.out _).mono ?_); rintro e w6 ⟨rfl, hb⟩; have hq := Kd.C_below (Kd.C_alloc HC1.out _) hb; clear HC1; have HC1 := Aside0.mk hq; clear hq; have HB6 := Aside0.mk (below_step (below_alloc HB5.out _) hb); have HR6 := Aside0.mk (after_alloc hb); clear hb)
  | (go_at_call 29; (with_reducible refine (HSX.out _).mono ?_); rintro e w7 ⟨v, rfl, hr, hb⟩; obtain ⟨AB, cB, rfl, hl, hC⟩ := Kd.R_reads hr; have HLB := Aside0.mk hl; have HKB := Aside0.mk hC; have hq := Kd.C_below HC1.out hb; clear HC1; have HC1 := Aside0.mk hq; clear hq; have HB7 := Aside0.mk (below_step HB6.out hb); have HR7 := Aside0.mk (after_call hb HR6.out); clear hb hr hl hC)
  | (go_at_call 29; (with_reducible refine (HSY.out _).mono ?_); rintro e w8 ⟨v, rfl, hr, hb⟩; obtain ⟨AL, cL, rfl, hl, hC⟩ := Kd.R_reads hr; have HLL := Aside0.mk hl; have HKL := Aside0.mk hC; have hq := Kd.C_below HC1.out hb; clear HC1; have HC1 := Aside0.mk hq; clear hq; have hq := Kd.C_below HKB.out hb; clear HKB; have HKB := Aside0.mk hq; clear hq; have HB8 := Aside0.mk (below_step HB7.out hb); have HR8 := Aside0.mk (after_call hb HR7.out); clear hb hr hl hC)
  | (go_at_call 29; (with_reducible refine (HSZ.out _).mono ?_); rintro e w9 ⟨v, rfl, hr, hb⟩; obtain ⟨AR, cR, rfl, hl, hC⟩ := Kd.R_reads hr; have HLR := Aside0.mk hl; have HKR := Aside0.mk hC; have hq := Kd.C_below HC1.out hb; clear HC1; have HC1 := Aside0.mk hq; clear hq; have hq := Kd.C_below HKB.out hb; clear HKB; have HKB := Aside0.mk hq; clear hq; have hq := Kd.C_below HKL.out hb; clear HKL; have HKL := Aside0.mk hq; clear hq; have HB9 := Aside0.mk (below_step HB8.out hb); have HR9 := Aside0.mk (after_call hb HR8.out); clear hb hr hl hC))
 clear HB3 HX53 HB4 HB5 HB6 HB7 HB8 HR6 HR7 HR8 H1 HSX HSY HSZ HT HO
 go_loopg [13, 14, 15, 16] m (fun gg s13_ s14_ s15_ s16_ wr => ∃ i : Nat, i ≤ m ∧ m - i ≤ gg ∧ s13_ = .string (U i) ∧ s14_ = .string (V i) ∧ s15_ = .string (T i) ∧ s16_ = .int .i64 i ∧ Aside0 (Below w9.heap.size w9 wr))
 case atStart => exact ⟨0, Nat.zero_le _, by omega, by rw [HE0.out.1], by rw [HE0.out.2.1], by rw [HE0.out.2.2], rfl, ⟨Below.refl _ _⟩⟩
 case round =>
  obtain ⟨i, hi, hg, rfl, rfl, rfl, rfl, HW⟩ := hrel
  have HR := Aside0.mk (after_call HW.out HR9.out)
  have r3 := (blk_cell HR.out 3).trans (rfl : _ = some (Value.slice A3 m c3))
  by_cases hlt : i < m
  ·have hltz : (i : Int) < (m : Int) := by omega
   have stp := HST.out i hlt
   obtain ⟨ad, ea, hx0, hx1, hx2, hx3, hx4, hx5, hx6⟩ := at_T91 (Kd.C_below HC1.out HW.out) (i : Int) (by omega) hltz
   rw [ea] at r3
   generalize rd_T91 cs1 (i : Int) = ch at hx0 hx1 hx2 hx3 hx4 hx5 hx6 stp
   obtain ⟨b, ⟨p0, p1⟩, ⟨q0, q1⟩, ⟨s0, s1⟩⟩ := ch
   obtain ⟨p, q, r, jp, jq, jr, kc, cv, f1, f2, f3, f4, f5, f6, f7, f8, f9, z1, z2, z3, f10, f11⟩ := stp
   simp only [Int.toNat_natCast] at hx0 hx1 hx2 hx3 hx4 hx5 hx6 f1 f2 f3 f10 f11
   generalize U i = u at *
   generalize V i = v at *
   generalize T i = t at *
   have y1 : u.size + jp.size ≤ 9223372036854775807 := by omega
   have y2 : v.size + jq.size ≤ 9223372036854775807 := by omega
   have y3 : t.size + jr.size ≤ 9223372036854775807 := by omega
   have y1' : (9223372036854775807 < u.size + jp.size) = False := eq_false (Nat.not_lt.2 y1)
   have y2' : (9223372036854775807 < v.size + jq.size) = False := eq_false (Nat.not_lt.2 y2)
   have y3' : (9223372036854775807 < t.size + jr.size) = False := eq_false (Nat.not_lt.2 y3)
   have HJ1 := Aside0.mk f4
   have HJ2 := Aside0.mk f5
   have HJ3 := Aside0.mk f6
   have HK := Aside0.mk f10
   have HEQ := Aside0.mk (And.intro f7 (And.intro f8 f9))
   have HF0 := Aside0.mk f11
   have HKB' := Aside0.mk (Kd.C_below HKB.out HW.out)
   have HKL' := Aside0.mk (Kd.C_below HKL.out HW.out)
   have HKR' := Aside0.mk (Kd.C_below HKR.out HW.out)
   have HX1 := Aside0.mk (fun W (hb : Below (wr.alloc (.cells #[.bool b, .int .i64 p0, .int .i64 p1, .int .i64 q0, .int .i64 q1, .int .i64 s0, .int .i64 s1] 91)).heap.size (wr.alloc (.cells #[.bool b, .int .i64 p0, .int .i64 p1, .int .i64 q0, .int .i64 q1, .int .i64 s0, .int .i64 s1] 91)) W) => chunk_Span_Cut.calls p0 p1 AB cB B p W (Kd.C_below (Kd.C_alloc HKB'.out _) hb) HLB.out f1)
   have HX2 := Aside0.mk (fun W (hb : Below (wr.alloc (.cells #[.bool b, .int .i64 p0, .int .i64 p1, .int .i64 q0, .int .i64 q1, .int .i64 s0, .int .i64 s1] 91)).heap.size (wr.alloc (.cells #[.bool b, .int .i64 p0, .int .i64 p1, .int .i64 q0, .int .i64 q1, .int .i64 s0, .int .i64 s1] 91)) W) => chunk_Span_Cut.calls q0 q1 AL cL L q W (Kd.C_below (Kd.C_alloc HKL'.out _) hb) HLL.out f2)
   have HX3 := Aside0.mk (fun W (hb : Below (wr.alloc (.cells #[.bool b, .int .i64 p0, .int .i64 p1, .int .i64 q0, .int .i64 q1, .int .i64 s0, .int .i64 s1] 91)).heap.size (wr.alloc (.cells #[.bool b, .int .i64 p0, .int .i64 p1, .int .i64 q0, .int .i64 q1, .int .i64 s0, .int .i64 s1] 91)) W) => chunk_Span_Cut.calls s0 s1 AR cR R r W (Kd.C_below (Kd.C_alloc HKR'.out _) hb) HLR.out f3)
   have HCL := Aside0.mk (fun W (hb : Below (wr.alloc (.cells #[.bool b, .int .i64 p0, .int .i64 p1, .int .i64 q0, .int .i64 q1, .int .i64 s0, .int .i64 s1] 91)).heap.size (wr.alloc (.cells #[.bool b, .int .i64 p0, .int .i64 p1, .int .i64 q0, .int .i64 q1, .int .i64 s0, .int .i64 s1] 91)) W) => chunk_Chunk_Class.calls kc b p0 p1 q0 q1 s0 s1 AB cB B AL cL L AR cR R cv W (Kd.C_below (Kd.C_alloc HKB'.out _) hb) HLB.out (Kd.C_below (Kd.C_alloc HKL'.out _) hb) HLL.out (Kd.C_below (Kd.C_alloc HKR'.out _) hb) HLR.out f10)
   clear f1 f2 f3 f4 f5 f6 f7 f8 f9 f10 f11 z1 z2 z3 ea HKB' HKL' HKR'
   go_wp2
   obtain ⟨g, hgg⟩ : ∃ g, g = wr.heap.size := ⟨_, rfl⟩
   have hbx : (wr.alloc (.cells #[.bool b, .int .i64 p0, .int .i64 p1, .int .i64 q0, .int .i64 q1, .int .i64 s0, .int .i64 s1] 91)).heap[wr.heap.size]? = some (.cells #[.bool b, .int .i64 p0, .int .i64 p1, .int .i64 q0, .int .i64 q1, .int .i64 s0, .int .i64 s1] 91 (0, 0)) := World.alloc_heap_new wr _
   have HW0 := Aside0.mk (below_alloc HW.out (.cells #[.bool b, .int .i64 p0, .int .i64 p1, .int .i64 q0, .int .i64 q1, .int .i64 s0, .int .i64 s1] 91))
   generalize (wr.alloc (.cells #[.bool b, .int .i64 p0, .int .i64 p1, .int .i64 q0, .int .i64 q1, .int .i64 s0, .int .i64 s1] 91)) = W0 at *
   rw [← hgg] at hbx ⊢
   have HBX := Aside0.mk hbx
   clear hbx hgg r3 hx0 hx1 hx2 hx3 hx4 hx5 hx6
   have d1 := (blk_cell HBX.out 1).trans (rfl : _ = some (Value.int .i64 p0))
   have d2 := (blk_cell HBX.out 2).trans (rfl : _ = some (Value.int .i64 p1))
   have d3 := (blk_cell HBX.out 3).trans (rfl : _ = some (Value.int .i64 q0))
   have d4 := (blk_cell HBX.out 4).trans (rfl : _ = some (Value.int .i64 q1))
   have d5 := (blk_cell HBX.out 5).trans (rfl : _ = some (Value.int .i64 s0))
   have d6 := (blk_cell HBX.out 6).trans (rfl : _ = some (Value.int .i64 s1))
   have HQ : Aside0 (Below W0.heap.size W0 W0.drew) := ⟨below_drew (Below.refl _ _)⟩
   have tc1 : True := trivial
   have tc2 : True := trivial
   have tc3 : True := trivial
   have tj1 : True := trivial
   have tj2 : True := trivial
   have tj3 : True := trivial
   go_region_held3 (fun w' => w'.cell? ⟨g, 1, none⟩ = some (.int .i64 p0) ∧ w'.cell? ⟨g, 2, none⟩ = some (.int .i64 p1) ∧ w'.cell? ⟨g, 3, none⟩ = some (.int .i64 q0) ∧ w'.cell? ⟨g, 4, none⟩ = some (.int .i64 q1) ∧ w'.cell? ⟨g, 5, none⟩ = some (.int .i64 s0) ∧ w'.cell? ⟨g, 6, none⟩ = some (.int .i64 s1))
    ((refine (fun (hb : Below W0.heap.size W0 _) => ⟨(hb.cell (World.block_lt_of_cell? W0 _ d1)).trans d1, (hb.cell (World.block_lt_of_cell? W0 _ d2)).trans d2, (hb.cell (World.block_lt_of_cell? W0 _ d3)).trans d3, (hb.cell (World.block_lt_of_cell? W0 _ d4)).trans d4, (hb.cell (World.block_lt_of_cell? W0 _ d5)).trans d5, (hb.cell (World.block_lt_of_cell? W0 _ d6)).trans d6⟩) ?_; exact HQ.out))
    (first
     | ((refine Go.Proofs.YtfiamddinkokbaaW.PrintLast.goes_ Try.func60 (by kernel_rfl) rfl #[.agg #[.int .i64 p0, .int .i64 p1], .slice AB B.length cB] (by rfl) rfl rfl (by (try simp only [List.map_toArray, List.map_cons, List.map_nil]); rfl) ?_; have _t := tc1; refine (HX1.out _ HQ.out).mono ?_; rintro e wc1 ⟨v, rfl, hr, hb⟩; obtain ⟨Bx1, bx1, rfl, hl, hC⟩ := Kd.R_reads hr; have HLX1 := Aside0.mk hl; have HCX1 := Aside0.mk hC; clear hr hl hC; have hq := below_step HQ.out hb; clear tc1 HQ hb; have HQ := Aside0.mk hq; clear hq; refine ⟨_, rfl, ?_⟩))
     | ((refine Go.Proofs.YtfiamddinkokbaaW.PrintLast.goes_ Try.func33 (by kernel_rfl) rfl #[.slice Bx1 p.length bx1] (by rfl) rfl rfl (by (try simp only [List.map_toArray, List.map_cons, List.map_nil]); rfl) ?_; have _t := tj1; refine (lines_Join.calls Bx1 bx1 p jp _ HCX1.out HLX1.out HJ1.out).mono ?_; rintro e wj1 ⟨rfl, hb⟩; skip; have hq := below_step HQ.out hb; clear tj1 HQ hb; have HQ := Aside0.mk hq; clear hq; refine ⟨_, rfl, ?_⟩))
     | ((refine Go.Proofs.YtfiamddinkokbaaW.PrintLast.goes_ Try.func60 (by kernel_rfl) rfl #[.agg #[.int .i64 q0, .int .i64 q1], .slice AL L.length cL] (by rfl) rfl rfl (by (try simp only [List.map_toArray, List.map_cons, List.map_nil]); rfl) ?_; have _t := tc2; refine (HX2.out _ HQ.out).mono ?_; rintro e wc2 ⟨v, rfl, hr, hb⟩; obtain ⟨Bx2, bx2, rfl, hl, hC⟩ := Kd.R_reads hr; have HLX2 := Aside0.mk hl; have HCX2 := Aside0.mk hC; clear hr hl hC; have hq := below_step HQ.out hb; clear tc2 HQ hb; have HQ := Aside0.mk hq; clear hq; refine ⟨_, rfl, ?_⟩))
     | ((refine Go.Proofs.YtfiamddinkokbaaW.PrintLast.goes_ Try.func33 (by kernel_rfl) rfl #[.slice Bx2 q.length bx2] (by rfl) rfl rfl (by (try simp only [List.map_toArray, List.map_cons, List.map_nil]); rfl) ?_; have _t := tj2; refine (lines_Join.calls Bx2 bx2 q jq _ HCX2.out HLX2.out HJ2.out).mono ?_; rintro e wj2 ⟨rfl, hb⟩; skip; have hq := below_step HQ.out hb; clear tj2 HQ hb; have HQ := Aside0.mk hq; clear hq; refine ⟨_, rfl, ?_⟩))
     | ((refine Go.Proofs.YtfiamddinkokbaaW.PrintLast.goes_ Try.func60 (by kernel_rfl) rfl #[.agg #[.int .i64 s0, .int .i64 s1], .slice AR R.length cR] (by rfl) rfl rfl (by (try simp only [List.map_toArray, List.map_cons, List.map_nil]); rfl) ?_; have _t := tc3; refine (HX3.out _ HQ.out).mono ?_; rintro e wc3 ⟨v, rfl, hr, hb⟩; obtain ⟨Bx3, bx3, rfl, hl, hC⟩ := Kd.R_reads hr; have HLX3 := Aside0.mk hl; have HCX3 := Aside0.mk hC; clear hr hl hC; have hq := below_step HQ.out hb; clear tc3 HQ hb; have HQ := Aside0.mk hq; clear hq; refine ⟨_, rfl, ?_⟩))
     | ((refine Go.Proofs.YtfiamddinkokbaaW.PrintLast.goes_ Try.func33 (by kernel_rfl) rfl #[.slice Bx3 r.length bx3] (by rfl) rfl rfl (by (try simp only [List.map_toArray, List.map_cons, List.map_nil]); rfl) ?_; have _t := tj3; refine (lines_Join.calls Bx3 bx3 r jr _ HCX3.out HLX3.out HJ3.out).mono ?_; rintro e wj3 ⟨rfl, hb⟩; skip; have hq := below_step HQ.out hb; clear tj3 HQ hb; have HQ := Aside0.mk hq; clear hq; refine ⟨_, rfl, ?_⟩)))
   have d0 := (blk_cell HBX.out 0).trans (rfl : _ = some (Value.bool b))
   have hq0 := below_drew HQ.out
   have HQ1 := HQ
   clear HQ
   have HQ := Aside0.mk hq0
   clear hq0 HX1 HX2 HX3 HCX1 HCX2 HCX3 HLX1 HLX2 HLX3 HJ1 HJ2 HJ3
   have tcl : True := trivial
   have hb1 := HF0.out
   have hb2 : (cv == 0) = b := hb1
   go_wp2
   go_region_held3 (fun w' => w'.cell? ⟨g, 0, none⟩ = some (.bool b) ∧ w'.cell? ⟨g, 1, none⟩ = some (.int .i64 p0) ∧ w'.cell? ⟨g, 2, none⟩ = some (.int .i64 p1) ∧ w'.cell? ⟨g, 3, none⟩ = some (.int .i64 q0) ∧ w'.cell? ⟨g, 4, none⟩ = some (.int .i64 q1) ∧ w'.cell? ⟨g, 5, none⟩ = some (.int .i64 s0) ∧ w'.cell? ⟨g, 6, none⟩ = some (.int .i64 s1))
    ((refine (fun (hb : Below W0.heap.size W0 _) => ⟨(hb.cell (World.block_lt_of_cell? W0 _ d0)).trans d0, (hb.cell (World.block_lt_of_cell? W0 _ d1)).trans d1, (hb.cell (World.block_lt_of_cell? W0 _ d2)).trans d2, (hb.cell (World.block_lt_of_cell? W0 _ d3)).trans d3, (hb.cell (World.block_lt_of_cell? W0 _ d4)).trans d4, (hb.cell (World.block_lt_of_cell? W0 _ d5)).trans d5, (hb.cell (World.block_lt_of_cell? W0 _ d6)).trans d6⟩) ?_; exact HQ.out))
    (first
     | ((refine Go.Proofs.YtfiamddinkokbaaW.PrintLast.goes_ Try.func61 (by kernel_rfl) rfl #[.agg #[.bool b, .int .i64 p0, .int .i64 p1, .int .i64 q0, .int .i64 q1, .int .i64 s0, .int .i64 s1], .slice AB B.length cB, .slice AL L.length cL, .slice AR R.length cR] (by rfl) rfl rfl (by (try simp only [List.map_toArray, List.map_cons, List.map_nil]); rfl) ?_; have _t := tcl; refine (HCL.out _ HQ.out).mono ?_; rintro e wk ⟨rfl, hb⟩; skip; have hq := below_step HQ.out hb; clear tcl HQ hb; have HQ := Aside0.mk hq; clear hq; refine ⟨_, rfl, ?_⟩)))
   have HB10 := Aside0.mk (below_step HW0.out HQ.out)
   go_wp2
   go_roundg (m - (i + 1))
   case measure => omega
   case rel => exact ⟨i + 1, by omega, Nat.le_refl _, by rw [HEQ.out.1], by rw [HEQ.out.2.1], by rw [HEQ.out.2.2], by go_num, HB10⟩
  ·obtain rfl : i = m := by omega
   have hge : ¬ (i : Int) < (i : Int) := by omega
   have qd : decide ((i : Int) < (i : Int)) = false := decide_eq_false hge
   have HBx := Aside0.mk (below_step HB9.out HW.out)
   rw [HEM.out.1, HEM.out.2.1, HEM.out.2.2]
   go_wp2
   go_ret
   exact ⟨rfl, HBx.out⟩
theorem tripartiteSpans_walk (a0 a1 a2 : ByteArray) (st wd fv : Int) (g0 g1 g2 : ByteArray) (s0 : g0.size ≤ 140737488351232) (s1 : g1.size ≤ 140737488351232) (s2 : g2.size ≤ 140737488351232) (w : World) :
  Calls Try.prog 11 #[.agg #[.string a0, .string a1, .string a2], .agg #[.int .i64 st, .int .i64 wd, .int .i64 fv, .string g0, .string g1, .string g2]] w fun e w' => e = .returned (.bool true) ∧ Below w.heap.size w w' := by
 by_cases hf : g0.size + g1.size + g2.size ≤ 500
 ·exact spans_yes s0 s1 s2 hf
 ·exact spans_no s0 s1 s2 hf
end Go.Proofs.Ytfiamddinkokbaa.F
end

section
namespace Go.Proofs.Ytfiamddinkokbaa.F
open Go.RowKit Go.Proofs.YtfiamddinkokbaaW.PrintWords Go.ChangeShapes Go.WideShapes Go.Deep Go.Joins
section
variable {H : Type} {enc : TypeId × Value → H}
theorem back_how (W : World) (b : Nat) (sp : Nat → Bool) (hd : Bool) (st wd fv : Int) (g0 g1 g2 : ByteArray) (w0 : (Lit.int .i64 st).wf = true) (w1 : (Lit.int .i64 wd).wf = true) (w2 : (Lit.int .i64 fv).wf = true) (s0 : g0.size ≤ maxLen) (s1 : g1.size ≤ maxLen) (s2 : g2.size ≤ maxLen) :
  DataW.Trod enc Try.prog W b sp hd 74 (.agg #[.int .i64 st, .int .i64 wd, .int .i64 fv, .string g0, .string g1, .string g2]) (.agg [.lit (.int .i64 st), .lit (.int .i64 wd), .lit (.int .i64 fv), .lit (.string g0.data.toList), .lit (.string g1.data.toList), .lit (.string g2.data.toList)]) [] := by
 have h3 := Try.underlying3
 have h9 := Try.underlying9
 have c3 : Try.prog.cellsOf 3 = 1 := by kernel_rfl
 have c9 : Try.prog.cellsOf 9 = 1 := by kernel_rfl
 have c74 : Try.prog.cellsOf 74 = 6 := by kernel_rfl
 refine ⟨2, ?_⟩
 simp [DataW.trod, Try.underlying74, h3, h9, c3, c9, c74, w0, w1, w2, s0, s1, s2, Value.cells]
theorem back_three (W : World) (b : Nat) (sp : Nat → Bool) (hd : Bool) (a0 a1 a2 : ByteArray) (s0 : a0.size ≤ maxLen) (s1 : a1.size ≤ maxLen) (s2 : a2.size ≤ maxLen) :
  DataW.Trod enc Try.prog W b sp hd 72 (.agg #[.string a0, .string a1, .string a2]) (.agg [.lit (.string a0.data.toList), .lit (.string a1.data.toList), .lit (.string a2.data.toList)]) [] := by
 have h9 := Try.underlying9
 have c9 : Try.prog.cellsOf 9 = 1 := by kernel_rfl
 have c3 : Try.prog.cellsOf 72 = 3 := by kernel_rfl
 refine ⟨2, ?_⟩
 simp [DataW.trod, Try.underlying72, h9, c9, c3, s0, s1, s2, Value.cells, List.range, List.range.loop]
set_option maxRecDepth 100000 in
theorem open_how {W : World} {b0 base : Nat} {r : Reach} {sp : Nat → Bool} {hd : Bool} {v : Value} {d : DataW H} {p : List MemPlace} {ts : List TypeId} {ds : List (DataW H)} {j : Nat}
  (hsz : (DataW.weightsEach Try.prog ts ds).all (· ≤ reachBytes) = true) (htj : ts[j]? = some 74) (hdj : ds[j]? = some d) (hv : Value.okWide Try.prog W r b0 74 v) (h : DataW.Trod enc Try.prog W base sp hd 74 v d p) :
  ∃ (st wd fv : Int) (g0 g1 g2 : ByteArray), v = .agg #[.int .i64 st, .int .i64 wd, .int .i64 fv, .string g0, .string g1, .string g2] ∧ d = .agg [.lit (.int .i64 st), .lit (.int .i64 wd), .lit (.int .i64 fv), .lit (.string g0.data.toList), .lit (.string g1.data.toList), .lit (.string g2.data.toList)] ∧ p = [] ∧
   ((Lit.int .i64 st).wf = true ∧ (Lit.int .i64 wd).wf = true ∧ (Lit.int .i64 fv).wf = true) ∧ (g0.size ≤ 140737488351232 ∧ g1.size ≤ 140737488351232 ∧ g2.size ≤ 140737488351232) := by
 have hs := Try.underlying74
 have hi := Try.underlying3
 have hg := Try.underlying9
 obtain ⟨cs, rfl, hcs⟩ := okWide_struct hs hv
 have hc6 : cs.size = 6 := hcs.trans (by kernel_rfl)
 obtain ⟨l⟩ := cs
 match l, hc6 with
 | [c0, c1, c2, c3, c4, c5], _ =>
  obtain ⟨fuel, hf⟩ := h
  obtain ⟨xs, n, _, hx, _, hlen, hgt⟩ := DataW.trod_struct hs hf
  have k3 : Try.prog.cellsOf 3 = 1 := by kernel_rfl
  have k9 : Try.prog.cellsOf 9 = 1 := by kernel_rfl
  match xs, hlen with
  | [y0, y1, y2, y3, y4, y5], _ =>
   have t0 := hgt 0 _ rfl
   have t1 := hgt 1 _ rfl
   have t2 := hgt 2 _ rfl
   have t3 := hgt 3 _ rfl
   have t4 := hgt 4 _ rfl
   have t5 := hgt 5 _ rfl
   simp [Value.cells, k3, k9] at t0 t1 t2 t3 t4 t5
   obtain ⟨st, e0, rfl, w0⟩ := DataW.trod_int hi t0
   obtain ⟨wd, e1, rfl, w1⟩ := DataW.trod_int hi t1
   obtain ⟨fv, e2, rfl, w2⟩ := DataW.trod_int hi t2
   obtain ⟨g0, e3, rfl, s0⟩ := DataW.trod_string hg t3
   obtain ⟨g1, e4, rfl, s1⟩ := DataW.trod_string hg t4
   obtain ⟨g2, e5, rfl, s2⟩ := DataW.trod_string hg t5
   simp at e0 e1 e2 e3 e4 e5 hx
   subst e0 e1 e2 e3 e4 e5
   obtain ⟨rfl, rfl⟩ := hx
   have hmem : ∀ (q : Nat) (s : ByteArray), [(.lit (.int .i64 st) : DataW H), .lit (.int .i64 wd), .lit (.int .i64 fv), .lit (.string g0.data.toList), .lit (.string g1.data.toList), .lit (.string g2.data.toList)][q]? = some (.lit (.string s.data.toList)) → ([3, 3, 3, 9, 9, 9] : List TypeId)[q]? = some 9 → s.size ≤ 140737488351232 := by
    intro q s hq hq9
    have h1 : s.data.toList.length ∈ DataW.weights Try.prog 74 (.agg [(.lit (.int .i64 st) : DataW H), .lit (.int .i64 wd), .lit (.int .i64 fv), .lit (.string g0.data.toList), .lit (.string g1.data.toList), .lit (.string g2.data.toList)]) := by
     simp only [DataW.weights, hs]
     exact DataW.weights_mem_each (j := q) (t := 9) hq9 hq _ (by simp [DataW.weights])
    have := List.all_eq_true.1 hsz _ (DataW.weights_mem_each htj hdj _ h1)
    rw [Array.length_toList] at this
    have hr : reachBytes = 140737488351232 := rfl
    simpa [hr] using this
   exact ⟨st, wd, fv, g0, g1, g2, rfl, rfl, rfl, ⟨w0, w1, w2⟩, hmem 3 g0 rfl rfl, hmem 4 g1 rfl rfl, hmem 5 g2 rfl rfl⟩
set_option maxRecDepth 100000 in
theorem open_three {W : World} {b0 base : Nat} {r : Reach} {sp : Nat → Bool} {hd : Bool} {v : Value} {d : DataW H} {p : List MemPlace} {ts : List TypeId} {ds : List (DataW H)} {j : Nat}
  (hsz : (DataW.weightsEach Try.prog ts ds).all (· ≤ reachBytes) = true) (htj : ts[j]? = some 72) (hdj : ds[j]? = some d) (hv : Value.okWide Try.prog W r b0 72 v) (h : DataW.Trod enc Try.prog W base sp hd 72 v d p) :
  ∃ (a0 a1 a2 : ByteArray), v = .agg #[.string a0, .string a1, .string a2] ∧ d = .agg [.lit (.string a0.data.toList), .lit (.string a1.data.toList), .lit (.string a2.data.toList)] ∧ p = [] ∧ (a0.size ≤ 140737488351232 ∧ a1.size ≤ 140737488351232 ∧ a2.size ≤ 140737488351232) := by
 have hs := Try.underlying72
 have hg := Try.underlying9
 have hc : ∃ cs : Array Value, v = .agg cs ∧ cs.size = 3 := by
  simp only [Value.okWide, hs] at hv
  obtain ⟨cs, h1, h2, _⟩ := hv
  exact ⟨cs, h1, h2.trans (by kernel_rfl)⟩
 obtain ⟨cs, rfl, hc3⟩ := hc
 obtain ⟨l⟩ := cs
 match l, hc3 with
 | [c0, c1, c2], _ =>
  obtain ⟨fuel, hf⟩ := h
  have k9 : Try.prog.cellsOf 9 = 1 := by kernel_rfl
  obtain ⟨y0, y1, y2, n, hx, t0, t1, t2⟩ := trod_array3 hs k9 hf
  obtain ⟨a0, e0, rfl, s0⟩ := DataW.trod_string hg t0
  obtain ⟨a1, e1, rfl, s1⟩ := DataW.trod_string hg t1
  obtain ⟨a2, e2, rfl, s2⟩ := DataW.trod_string hg t2
  simp at e0 e1 e2 hx
  subst e0 e1 e2
  obtain ⟨rfl, rfl⟩ := hx
  have hmem : ∀ s : ByteArray, (.lit (.string s.data.toList) : DataW H) ∈ [(.lit (.string a0.data.toList) : DataW H), .lit (.string a1.data.toList), .lit (.string a2.data.toList)] → s.size ≤ 140737488351232 := by
   intro s hq
   have h1 : s.data.toList.length ∈ DataW.weights Try.prog 72 (.agg [(.lit (.string a0.data.toList) : DataW H), .lit (.string a1.data.toList), .lit (.string a2.data.toList)]) := by
    simp only [DataW.weights, hs]
    exact weights_all_mem _ _ hq (by simp [DataW.weights])
   have := List.all_eq_true.1 hsz _ (DataW.weights_mem_each htj hdj _ h1)
   rw [Array.length_toList] at this
   have hr : reachBytes = 140737488351232 := rfl
   simpa [hr] using this
  exact ⟨a0, a1, a2, rfl, rfl, rfl, hmem a0 (by simp), hmem a1 (by simp), hmem a2 (by simp)⟩
end
end Go.Proofs.Ytfiamddinkokbaa.F
end
