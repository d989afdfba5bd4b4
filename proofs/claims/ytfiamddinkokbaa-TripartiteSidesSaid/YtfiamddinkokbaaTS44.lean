/- Texts joined into one file (wip/tools/pack.py): SidesWalk, OpenHow -/
import Derived.Test.YtfiamddinkokbaaTS43
import Derived.Test.YtfiamddinkokbaaTS35
import Derived.Test.YtfiamddinkokbaaTS36
import Derived.Test.YtfiamddinkokbaaTS37
import Derived.Laws.IdiomArrays
import Derived.OpenShut
set_option linter.unusedVariables false
set_option linter.unusedSimpArgs false
section
namespace Go.Proofs.Ytfiamddinkokbaa.F
open Go.RowKit Go.Shelf Go.Proofs.YtfiamddinkokbaaW.PrintWords
attribute [local go_sem high] eqA91
theorem alive_ex : ∃ k, tripartitetop_alive.f k = some true := ⟨60, by decide +kernel⟩
theorem alive_calls (W : World) : Calls Try.prog 56 #[] W fun e W' => e = .returned (.bool true) ∧ Below W.heap.size W W' := by
 obtain ⟨k, h⟩ := alive_ex
 exact tripartitetop_alive.calls k true W h
theorem fits_bool {st wd fv : Int} {g0 g1 g2 : ByteArray} (s0 : g0.size ≤ 140737488351232) (s1 : g1.size ≤ 140737488351232) (s2 : g2.size ≤ 140737488351232) (W : World) :
  Calls Try.prog 55 #[.agg #[.int .i64 st, .int .i64 wd, .int .i64 fv, .string g0, .string g1, .string g2]] W fun e W' => e = .returned (.bool (decide (g0.size + g1.size + g2.size ≤ 500))) ∧ Below W.heap.size W W' :=
 tripartitetop_fits.calls st wd fv g0 g1 g2 _ W (few_f st wd fv g0 g1 g2 s0 s1 s2)
def ToldN (w : World) (t : ByteArray) (wd n ec : Int) (m : Nat) (cs : List SC) (e : Ending) (w' : World) : Prop := ∃ (A0 A1 A2 A3 : Option Addr) (n0 c0 n1 c1 n2 c2 c3 : Nat), e = .returned (.tuple #[.agg #[.slice A0 n0 c0, .slice A1 n1 c1, .slice A2 n2 c2, .slice A3 m c3, .string t, .int .i64 wd, .int .i64 n], .int .i64 ec]) ∧ Kd.C k91 w' A3 m cs ∧ Below w.heap.size w w'
theorem texts_toldN {k : Nat} {a b c g0 g1 g2 : ByteArray} {st wd fv : Int} {d : List PP} {lp rp : List SP} {cs : List SC} {t : ByteArray} {W6 n ec : Int} {m : Nat} (h : textsF k a b c g0 g1 g2 st wd fv = some (d, lp, rp, cs, t, W6, n, ec)) (hm : cs.length = m) (w : World) :
  Calls Try.prog 58 #[.string a, .string b, .string c, .agg #[.string g0, .string g1, .string g2, .int .i64 st, .int .i64 wd, .int .i64 fv]] w (ToldN w t W6 n ec m cs) := by
 subst hm
 refine (texts_told h w).mono ?_
 rintro e w' ⟨A0, A1, A2, A3, n0, c0, n1, c1, n2, c2, c3, rfl, hr, hb⟩
 obtain ⟨B, b, e, hl, hC⟩ := Kd.R_reads hr
 injection e with e1 e2 e3
 subst e1
 exact ⟨A0, A1, A2, A3, n0, c0, n1, c1, n2, c2, c3, rfl, hC, hb⟩
set_option maxHeartbeats 8000000 in
set_option maxRecDepth 100000 in
theorem clean_any (A0 A1 A2 A3 : Option Addr) (n0 c0 n1 c1 n2 c2 n3 c3 : Nat) (t : ByteArray) (wd n : Int) (w : World) :
  Calls Try.prog 67 #[.agg #[.slice A0 n0 c0, .slice A1 n1 c1, .slice A2 n2 c2, .slice A3 n3 c3, .string t, .int .i64 wd, .int .i64 n]] w fun e w' => e = .returned (.bool (n == 0)) ∧ Below w.heap.size w w' := by
 have HB := Aside0.mk (Below.refl w.heap.size w)
 go_enter Try.func67, Try.ntmps67
 go_wp2
 go_ret
 exact ⟨rfl, below_alloc HB.out _⟩
set_option maxHeartbeats 8000000 in
set_option maxRecDepth 100000 in
theorem sides_no {a b g0 g1 g2 : ByteArray} {st wd fv : Int} {w : World} (s0 : g0.size ≤ 140737488351232) (s1 : g1.size ≤ 140737488351232) (s2 : g2.size ≤ 140737488351232) (hf : ¬ g0.size + g1.size + g2.size ≤ 500) :
  Calls Try.prog 18 #[.string a, .string b, .agg #[.int .i64 st, .int .i64 wd, .int .i64 fv, .string g0, .string g1, .string g2]] w fun e w' => e = .returned (.bool true) ∧ Below w.heap.size w w' := by
 have HF := Aside0.mk (fun W => fits_bool (st := st) (wd := wd) (fv := fv) s0 s1 s2 W)
 rw [decide_eq_false hf] at HF
 have HT := Aside0.mk (fun W => alive_calls W)
 clear s0 s1 s2 hf
 go_enter Try.func18, Try.ntmps18
 go_wp2_with (first
  | (go_at_call 55; (with_reducible refine (HF.out _).mono ?_); rintro e w1 ⟨rfl, hb⟩; have HB := Aside0.mk (below_step (below_alloc (Below.refl _ _) _) hb); clear hb)
  | (go_at_call 56; (with_reducible refine (HT.out _).mono ?_); rintro e w2 ⟨rfl, hb⟩; have HB2 := Aside0.mk (below_step HB.out hb); clear hb))
 go_ret
 exact ⟨rfl, HB2.out⟩
theorem sides_facts {x y g0 g1 g2 : ByteArray} {st wd fv : Int} (ho : Okay g0 g1 g2 st wd fv) (sx : x.size ≤ 250) (sy : y.size ≤ 250) :
  ∃ (k1 k2 k3 m m3 : Nat) (d1 d2 d3 : List PP) (lp1 rp1 lp2 rp2 lp3 rp3 : List SP) (cs1 cs2 cs3 : List SC) (W1 W2 W3 : Int), textsF k1 x x y g0 g1 g2 st wd fv = some (d1, lp1, rp1, cs1, y, W1, 0, 0) ∧ textsF k2 x y x g0 g1 g2 st wd fv = some (d2, lp2, rp2, cs2, y, W2, 0, 0) ∧
   textsF k3 y x x g0 g1 g2 st wd fv = some (d3, lp3, rp3, cs3, x, W3, 0, 0) ∧ m ≤ 1000 ∧ cs1.length = m ∧ cs2.length = m ∧ cs3.length = m3 ∧ ∀ i : Nat, i < m → rd_T91 cs2 (i : Int) = turnC (rd_T91 cs1 (i : Int)) := by
 obtain ⟨d1, lp1, rp1, cs1, m1, e1⟩ := ev_texts_left (a := x) (c := y) ho (by omega) (by omega)
 obtain ⟨d2, lp2, rp2, cs2, m2, e2⟩ := ev_texts_right (a := x) (b := y) ho (by omega) (by omega)
 obtain ⟨d3, lp3, rp3, cs3, m3, e3⟩ := ev_texts_both (a := y) (b := x) ho (by omega) (by omega)
 obtain ⟨k1, h1⟩ := e1.get
 obtain ⟨k2, h2⟩ := e2.get
 obtain ⟨k3, h3⟩ := e3.get
 obtain ⟨_, _, rfl⟩ := m1.turn m2
 refine ⟨k1, k2, k3, _, _, d1, d2, d3, lp1, rp1, lp2, rp2, lp3, rp3, cs1, _, cs3, _, _, _, h1, h2, h3, ?_, rfl, by rw [List.length_map], rfl, fun i hi => ?_⟩
 ·have q1 := (chunk_count m1.steps).1
  have q2 := splitB_length x
  omega
 unfold rd_T91
 rw [Int.toNat_natCast, List.getD_eq_getElem?_getD, List.getD_eq_getElem?_getD, List.getElem?_map, List.getElem?_eq_getElem hi]
 rfl
set_option maxHeartbeats 16000000 in
set_option maxRecDepth 100000 in
theorem sides_yes {a b g0 g1 g2 : ByteArray} {st wd fv : Int} {w : World} (s0 : g0.size ≤ 140737488351232) (s1 : g1.size ≤ 140737488351232) (s2 : g2.size ≤ 140737488351232) (hf : g0.size + g1.size + g2.size ≤ 500) :
  Calls Try.prog 18 #[.string a, .string b, .agg #[.int .i64 st, .int .i64 wd, .int .i64 fv, .string g0, .string g1, .string g2]] w fun e w' => e = .returned (.bool true) ∧ Below w.heap.size w w' := by
 have HF := Aside0.mk (fun W => fits_bool (st := st) (wd := wd) (fv := fv) s0 s1 s2 W)
 rw [decide_eq_true hf] at HF
 have HT := Aside0.mk (fun W => alive_calls W)
 obtain ⟨x, hx, sx⟩ := short_f a
 obtain ⟨y, hy, sy⟩ := short_f b
 have HX := Aside0.mk (fun W => tripartitelaw12_Short.calls a x W hx)
 have HY := Aside0.mk (fun W => tripartitelaw12_Short.calls b y W hy)
 obtain ⟨l0, l1, l2, st', wd', ho, he⟩ := ev_options st wd fv g0 g1 g2 hf
 obtain ⟨ko, hk⟩ := he.get
 have HO := Aside0.mk (fun W => tripartitelaw12_Options.calls ko st wd fv g0 g1 g2 l0 l1 l2 st' wd' 0 W hk)
 obtain ⟨k1, k2, k3, m, m3, d1, d2, d3, lp1, rp1, lp2, rp2, lp3, rp3, cs1, cs2, cs3, W1, W2, W3, h1, h2, h3, hm4, e1, e2, e3, ht⟩ := sides_facts (x := x) (y := y) ho sx sy
 have H1 := Aside0.mk (fun W => texts_toldN h1 e1 W)
 have H2 := Aside0.mk (fun W => texts_toldN h2 e2 W)
 have H3 := Aside0.mk (fun W => texts_toldN h3 e3 W)
 have HTR := Aside0.mk ht
 have tk1 : True := trivial
 have tk2 : True := trivial
 clear s0 s1 s2 hf hx sx hy sy ho he hk h1 h2 h3 e1 e2 e3 ht
 go_enter Try.func18, Try.ntmps18
 go_wp2_with (first
  | (go_at_call 55; (with_reducible refine (HF.out _).mono ?_); rintro e w1 ⟨rfl, hb⟩; have HB := Aside0.mk (below_step (below_alloc (Below.refl _ _) _) hb); have HX5 := Aside0.mk (after_alloc hb); clear hb)
  | (go_at_call 57; have _t := tk1; (with_reducible refine (HX.out _).mono ?_); rintro e w2 ⟨rfl, hb⟩; clear tk1; have HB2 := Aside0.mk (below_step HB.out hb); have HX52 := Aside0.mk (after_call hb HX5.out); clear hb)
  | (go_at_call 57; have _t := tk2; (with_reducible refine (HY.out _).mono ?_); rintro e w3 ⟨rfl, hb⟩; clear tk2; have HB3 := Aside0.mk (below_step HB2.out hb); have HX53 := Aside0.mk (after_call hb HX52.out); have m0 := (blk_cell HX53.out 0).trans (rfl : _ = some (Value.int .i64 st)); have m1 := (blk_cell HX53.out 1).trans (rfl : _ = some (Value.int .i64 wd)); have m2 := (blk_cell HX53.out 2).trans (rfl : _ = some (Value.int .i64 fv)); have m3 := (blk_cell HX53.out 3).trans (rfl : _ = some (Value.string g0)); have m4 := (blk_cell HX53.out 4).trans (rfl : _ = some (Value.string g1)); have m5 := (blk_cell HX53.out 5).trans (rfl : _ = some (Value.string g2)); clear hb)
  | (go_at_call 59; (with_reducible refine (HO.out _).mono ?_); rintro e w4 ⟨rfl, hb⟩; have HB4 := Aside0.mk (below_step HB3.out hb); clear hb m0 m1 m2 m3 m4 m5)
  | (go_at_call 58; (with_reducible refine (H1.out _).mono ?_); rintro e w5 ⟨A0, A1, A2, A3, n0, c0, n1, c1, n2, c2, c3, rfl, hr, hb⟩; have HC1 := Aside0.mk hr; have HB5 := Aside0.mk (below_step (below_alloc HB4.out _) hb); have HO5 := Aside0.mk (after_alloc hb); clear hb hr; have o0 : ∀ o, (w5.alloc o).cell? ⟨w4.heap.size, 0, none⟩ = some (Value.string l0) := fun o => tr1 o ((blk_cell HO5.out 0).trans rfl); have o1 : ∀ o, (w5.alloc o).cell? ⟨w4.heap.size, 1, none⟩ = some (Value.string l1) := fun o => tr1 o ((blk_cell HO5.out 1).trans rfl); have o2 : ∀ o, (w5.alloc o).cell? ⟨w4.heap.size, 2, none⟩ = some (Value.string l2) := fun o => tr1 o ((blk_cell HO5.out 2).trans rfl); have o3 : ∀ o, (w5.alloc o).cell? ⟨w4.heap.size, 3, none⟩ = some (Value.int .i64 st') := fun o => tr1 o ((blk_cell HO5.out 3).trans rfl); have o4 : ∀ o, (w5.alloc o).cell? ⟨w4.heap.size, 4, none⟩ = some (Value.int .i64 wd') := fun o => tr1 o ((blk_cell HO5.out 4).trans rfl); have o5 : ∀ o, (w5.alloc o).cell? ⟨w4.heap.size, 5, none⟩ = some (Value.int .i64 0) := fun o => tr1 o ((blk_cell HO5.out 5).trans rfl))
  | (go_at_call 58; (with_reducible refine (H2.out _).mono ?_); rintro e w6 ⟨B0, B1, B2, B3, n0', c0', n1', c1', n2', c2', c3', rfl, hr, hb⟩; have HC2 := Aside0.mk hr; have hq := Kd.C_below (Kd.C_alloc HC1.out _) hb; clear HC1; have HC1 := Aside0.mk hq; clear hq; have HB6 := Aside0.mk (below_step (below_alloc HB5.out _) hb); have HO6 := Aside0.mk (after_call hb (blk_alloc HO5.out _)); have HR6 := Aside0.mk (after_alloc hb); clear hb hr o0 o1 o2 o3 o4 o5; have o0 : ∀ o, (w6.alloc o).cell? ⟨w4.heap.size, 0, none⟩ = some (Value.string l0) := fun o => tr1 o ((blk_cell HO6.out 0).trans rfl); have o1 : ∀ o, (w6.alloc o).cell? ⟨w4.heap.size, 1, none⟩ = some (Value.string l1) := fun o => tr1 o ((blk_cell HO6.out 1).trans rfl); have o2 : ∀ o, (w6.alloc o).cell? ⟨w4.heap.size, 2, none⟩ = some (Value.string l2) := fun o => tr1 o ((blk_cell HO6.out 2).trans rfl); have o3 : ∀ o, (w6.alloc o).cell? ⟨w4.heap.size, 3, none⟩ = some (Value.int .i64 st') := fun o => tr1 o ((blk_cell HO6.out 3).trans rfl); have o4 : ∀ o, (w6.alloc o).cell? ⟨w4.heap.size, 4, none⟩ = some (Value.int .i64 wd') := fun o => tr1 o ((blk_cell HO6.out 4).trans rfl); have o5 : ∀ o, (w6.alloc o).cell? ⟨w4.heap.size, 5, none⟩ = some (Value.int .i64 0) := fun o => tr1 o ((blk_cell HO6.out 5).trans rfl))
  | (go_at_call 58; (with_reducible refine (H3.out _).mono ?_); rintro e w7 ⟨D0, D1, D2, D3, m0', e0', m1', e1', m2', e2', e3', rfl, hr, hb⟩; have hq1 := Kd.C_below (Kd.C_alloc HC1.out _) hb; have hq2 := Kd.C_below (Kd.C_alloc HC2.out _) hb; clear HC1 HC2; have HC1 := Aside0.mk hq1; have HC2 := Aside0.mk hq2; clear hq1 hq2; have HB7 := Aside0.mk (below_step (below_alloc HB6.out _) hb); have HR7 := Aside0.mk (after_call hb (blk_alloc HR6.out _)); have HS7 := Aside0.mk (after_alloc hb); clear hb hr o0 o1 o2 o3 o4 o5)
  | (go_at_call 56; (with_reducible refine (HT.out _).mono ?_); rintro e w8 ⟨rfl, hb⟩; have hq1 := Kd.C_below (Kd.C_alloc HC1.out _) hb; have hq2 := Kd.C_below (Kd.C_alloc HC2.out _) hb; clear HC1 HC2; have HC1 := Aside0.mk hq1; have HC2 := Aside0.mk hq2; clear hq1 hq2; have HB8 := Aside0.mk (below_step (below_alloc HB7.out _) hb); have HR8 := Aside0.mk (after_call hb (blk_alloc HR7.out _)); have HS8 := Aside0.mk (after_call hb (blk_alloc HS7.out _)); have HU8 := Aside0.mk (after_alloc hb); have r3 := (blk_cell HR8.out 3).trans (rfl : _ = some (Value.slice A3 m c3)); have u3 := (blk_cell HS8.out 3).trans (rfl : _ = some (Value.slice B3 m c3')); clear hb))
 clear r3 u3 HB HB2 HB3 HB4 HB5 HB6 HB7 HX5 HX52 HX53 HO5 HO6 HR6 HR7 HS7 H1 H2 H3 HF HX HY HO HT
 go_loopg [14] m (fun gg s14_ wr => ∃ i : Nat, i ≤ m ∧ m - i ≤ gg ∧ s14_ = .int .i64 i ∧ Aside0 (Below w8.heap.size w8 wr))
 case atStart => exact ⟨0, Nat.zero_le _, by omega, rfl, ⟨Below.refl _ _⟩⟩
 case round =>
  obtain ⟨i, hi, hg, rfl, HW⟩ := hrel
  have HR := Aside0.mk (after_call HW.out HR8.out)
  have HS := Aside0.mk (after_call HW.out HS8.out)
  have HU := Aside0.mk (after_call HW.out HU8.out)
  have r3 := (blk_cell HR.out 3).trans (rfl : _ = some (Value.slice A3 m c3))
  have u3 := (blk_cell HS.out 3).trans (rfl : _ = some (Value.slice B3 m c3'))
  by_cases hlt : i < m
  ·have hltz : (i : Int) < (m : Int) := by omega
   have tr := HTR.out i hlt
   obtain ⟨ad, ea, hx0, hx1, hx2, hx3, hx4, hx5, hx6⟩ := at_T91 (Kd.C_below HC1.out HW.out) (i : Int) (by omega) hltz
   obtain ⟨bd, eb, hy0, hy1, hy2, hy3, hy4, hy5, hy6⟩ := at_T91 (Kd.C_below HC2.out HW.out) (i : Int) (by omega) hltz
   rw [ea] at r3
   rw [eb] at u3
   rw [tr] at hy0 hy1 hy2 hy3 hy4 hy5 hy6
   generalize rd_T91 cs1 (i : Int) = ch at hx0 hx1 hx2 hx3 hx4 hx5 hx6 hy0 hy1 hy2 hy3 hy4 hy5 hy6
   obtain ⟨b, ⟨p0, p1⟩, ⟨q0, q1⟩, ⟨s0, s1⟩⟩ := ch
   simp only [turnC, Int.toNat_natCast] at hx0 hx1 hx2 hx3 hx4 hx5 hx6 hy0 hy1 hy2 hy3 hy4 hy5 hy6
   have HQ : Aside0 (Below wr.heap.size wr wr.drew) := ⟨below_drew (Below.refl _ _)⟩
   clear tr ea eb
   go_wp2
   go_region_held3 (fun w' => w'.cell? ⟨w5.heap.size, 3, none⟩ = some (.slice (some ad) m c3) ∧ w'.cell? ⟨w6.heap.size, 3, none⟩ = some (.slice (some bd) m c3') ∧ w'.cell? (ad.add (i * 7)) = some (.bool b) ∧ w'.cell? ⟨(ad.add (i * 7)).block, (ad.add (i * 7)).off + 1, none⟩ = some (.int .i64 p0) ∧ w'.cell? ⟨(ad.add (i * 7)).block, (ad.add (i * 7)).off + 2, none⟩ = some (.int .i64 p1) ∧ w'.cell? ⟨(ad.add (i * 7)).block, (ad.add (i * 7)).off + 3, none⟩ = some (.int .i64 q0) ∧ w'.cell? ⟨(ad.add (i * 7)).block, (ad.add (i * 7)).off + 4, none⟩ = some (.int .i64 q1) ∧ w'.cell? ⟨(ad.add (i * 7)).block, (ad.add (i * 7)).off + 5, none⟩ = some (.int .i64 s0) ∧ w'.cell? ⟨(ad.add (i * 7)).block, (ad.add (i * 7)).off + 6, none⟩ = some (.int .i64 s1) ∧ w'.cell? (bd.add (i * 7)) = some (.bool b) ∧ w'.cell? ⟨(bd.add (i * 7)).block, (bd.add (i * 7)).off + 1, none⟩ = some (.int .i64 p0) ∧ w'.cell? ⟨(bd.add (i * 7)).block, (bd.add (i * 7)).off + 2, none⟩ = some (.int .i64 p1) ∧ w'.cell? ⟨(bd.add (i * 7)).block, (bd.add (i * 7)).off + 3, none⟩ = some (.int .i64 s0) ∧ w'.cell? ⟨(bd.add (i * 7)).block, (bd.add (i * 7)).off + 4, none⟩ = some (.int .i64 s1) ∧ w'.cell? ⟨(bd.add (i * 7)).block, (bd.add (i * 7)).off + 5, none⟩ = some (.int .i64 q0) ∧ w'.cell? ⟨(bd.add (i * 7)).block, (bd.add (i * 7)).off + 6, none⟩ = some (.int .i64 q1))
    ((refine (fun (hb : Below wr.heap.size wr _) => ⟨(hb.cell (World.block_lt_of_cell? wr _ r3)).trans r3, (hb.cell (World.block_lt_of_cell? wr _ u3)).trans u3, (hb.cell (World.block_lt_of_cell? wr _ hx0)).trans hx0, (hb.cell (World.block_lt_of_cell? wr _ hx1)).trans hx1, (hb.cell (World.block_lt_of_cell? wr _ hx2)).trans hx2, (hb.cell (World.block_lt_of_cell? wr _ hx3)).trans hx3, (hb.cell (World.block_lt_of_cell? wr _ hx4)).trans hx4, (hb.cell (World.block_lt_of_cell? wr _ hx5)).trans hx5, (hb.cell (World.block_lt_of_cell? wr _ hx6)).trans hx6, (hb.cell (World.block_lt_of_cell? wr _ hy0)).trans hy0, (hb.cell (World.block_lt_of_cell? wr _ hy1)).trans hy1, (hb.cell (World.block_lt_of_cell? wr _ hy2)).trans hy2, (hb.cell (World.block_lt_of_cell? wr _ hy3)).trans hy3, (hb.cell (World.block_lt_of_cell? wr _ hy4)).trans hy4, (hb.cell (World.block_lt_of_cell? wr _ hy5)).trans hy5, (hb.cell (World.block_lt_of_cell? wr _ hy6)).trans hy6⟩) ?_; exact HQ.out))
    (first
     | ((refine Go.Proofs.YtfiamddinkokbaaW.PrintLast.goes_ Try.func70 (by kernel_rfl) rfl #[.agg #[.bool b, .int .i64 p0, .int .i64 p1, .int .i64 q0, .int .i64 q1, .int .i64 s0, .int .i64 s1]] (by rfl) rfl rfl (by (try simp only [List.map_toArray, List.map_cons, List.map_nil]); rfl) ?_; refine (chunk_Chunk_Turned.calls b p0 p1 q0 q1 s0 s1 b p0 p1 s0 s1 q0 q1 _ rfl).mono ?_; rintro e wt ⟨rfl, hb⟩; have hq := below_step HQ.out hb; clear HQ hb; have HQ := Aside0.mk hq; clear hq; refine ⟨_, rfl, ?_⟩)))
   have HB9 := Aside0.mk (below_step HW.out HQ.out)
   go_wp2
   go_roundg (m - (i + 1))
   case measure => omega
   case rel => exact ⟨i + 1, by omega, Nat.le_refl _, by go_num, HB9⟩
  ·have hge : ¬ (i : Int) < (m : Int) := by omega
   have qd : decide ((i : Int) < (m : Int)) = false := decide_eq_false hge
   have r4 := (blk_cell HR.out 4).trans (rfl : _ = some (Value.string y))
   have u4 := (blk_cell HS.out 4).trans (rfl : _ = some (Value.string y))
   have v4 := (blk_cell HU.out 4).trans (rfl : _ = some (Value.string x))
   have t0 := (blk_cell HR.out 0).trans (rfl : _ = some (Value.slice A0 n0 c0))
   have t1 := (blk_cell HR.out 1).trans (rfl : _ = some (Value.slice A1 n1 c1))
   have t2 := (blk_cell HR.out 2).trans (rfl : _ = some (Value.slice A2 n2 c2))
   have t5 := (blk_cell HR.out 5).trans (rfl : _ = some (Value.int .i64 W1))
   have t6 := (blk_cell HR.out 6).trans (rfl : _ = some (Value.int .i64 0))
   have HBx := Aside0.mk (below_step HB8.out HW.out)
   have tk3 : True := trivial
   have tk4 : True := trivial
   go_wp2_with (first
    | (go_at_call 67; have _t := tk3; (with_reducible refine (clean_any A0 A1 A2 A3 n0 c0 n1 c1 n2 c2 m c3 y W1 0 _).mono ?_); rintro e wx ⟨rfl, hb⟩; clear tk3 t0 t1 t2 t5 t6 r3 r4; have HBy := Aside0.mk (below_step HBx.out hb); have HSx := Aside0.mk (after_call hb HS.out); have HUx := Aside0.mk (after_call hb HU.out); clear hb u3 u4 v4; have b0 := (blk_cell HSx.out 0).trans (rfl : _ = some (Value.slice B0 n0' c0')); have b1 := (blk_cell HSx.out 1).trans (rfl : _ = some (Value.slice B1 n1' c1')); have b2 := (blk_cell HSx.out 2).trans (rfl : _ = some (Value.slice B2 n2' c2')); have b3 := (blk_cell HSx.out 3).trans (rfl : _ = some (Value.slice B3 m c3')); have b4 := (blk_cell HSx.out 4).trans (rfl : _ = some (Value.string y)); have b5 := (blk_cell HSx.out 5).trans (rfl : _ = some (Value.int .i64 W2)); have b6 := (blk_cell HSx.out 6).trans (rfl : _ = some (Value.int .i64 0)))
    | (go_at_call 67; have _t := tk4; (with_reducible refine (clean_any B0 B1 B2 B3 n0' c0' n1' c1' n2' c2' m c3' y W2 0 _).mono ?_); rintro e wy ⟨rfl, hb⟩; clear tk4 b0 b1 b2 b3 b4 b5 b6; have HBz := Aside0.mk (below_step HBy.out hb); have HUy := Aside0.mk (after_call hb HUx.out); clear hb; have d0 := (blk_cell HUy.out 0).trans (rfl : _ = some (Value.slice D0 m0' e0')); have d1 := (blk_cell HUy.out 1).trans (rfl : _ = some (Value.slice D1 m1' e1')); have d2 := (blk_cell HUy.out 2).trans (rfl : _ = some (Value.slice D2 m2' e2')); have d3 := (blk_cell HUy.out 3).trans (rfl : _ = some (Value.slice D3 m3 e3')); have d4 := (blk_cell HUy.out 4).trans (rfl : _ = some (Value.string x)); have d5 := (blk_cell HUy.out 5).trans (rfl : _ = some (Value.int .i64 W3)); have d6 := (blk_cell HUy.out 6).trans (rfl : _ = some (Value.int .i64 0)))
    | (go_at_call 67; (with_reducible refine (clean_any D0 D1 D2 D3 m0' e0' m1' e1' m2' e2' m3 e3' x W3 0 _).mono ?_); rintro e wz ⟨rfl, hb⟩; have HBw := Aside0.mk (below_step HBz.out hb); clear hb))
   go_ret
   exact ⟨rfl, HBw.out⟩
theorem tripartiteSides_walk (a b : ByteArray) (st wd fv : Int) (g0 g1 g2 : ByteArray) (s0 : g0.size ≤ 140737488351232) (s1 : g1.size ≤ 140737488351232) (s2 : g2.size ≤ 140737488351232) (w : World) :
  Calls Try.prog 18 #[.string a, .string b, .agg #[.int .i64 st, .int .i64 wd, .int .i64 fv, .string g0, .string g1, .string g2]] w fun e w' => e = .returned (.bool true) ∧ Below w.heap.size w w' := by
 by_cases hf : g0.size + g1.size + g2.size ≤ 500
 ·exact sides_yes s0 s1 s2 hf
 ·exact sides_no s0 s1 s2 hf
end Go.Proofs.Ytfiamddinkokbaa.F
end

section
namespace Go.Proofs.Ytfiamddinkokbaa.F
open Go.RowKit Go.Proofs.YtfiamddinkokbaaW.PrintWords Go.ChangeShapes Go.WideShapes Go.Deep Go.Joins
section
variable {H : Type} {enc : TypeId × Value → H}
theorem back_how (W : World) (b : Nat) (sp : Nat → Bool) (hd : Bool) (st wd fv : Int) (g0 g1 g2 : ByteArray) (w0 : (Lit.int .i64 st).wf = true) (w1 : (Lit.int .i64 wd).wf = true) (w2 : (Lit.int .i64 fv).wf = true) (s0 : g0.size ≤ maxLen) (s1 : g1.size ≤ maxLen) (s2 : g2.size ≤ maxLen) :
  DataW.Trod enc Try.prog W b sp hd 74 (.agg #[.int .i64 st, .int .i64 wd, .int .i64 fv, .string g0, .string g1, .string g2]) (.agg [.lit (.int .i64 st), .lit (.int .i64 wd), .lit (.int .i64 fv), .lit (.string g0.data.toList), .lit (.string g1.data.toList), .lit (.string g2.data.toList)]) [] := by
 have h3 := Try.underlying3
 have h9 := Try.underlying9
 have c3 : Try.prog.cellsOf 3 = 1 := by kernel_rfl
 have c9 : Try.prog.cellsOf 9 = 1 := by kernel_rfl
 have c74 : Try.prog.cellsOf 74 = 6 := by kernel_rfl
 refine ⟨2, ?_⟩
 simp [DataW.trod, Try.underlying74, h3, h9, c3, c9, c74, w0, w1, w2, s0, s1, s2, Value.cells]
set_option maxRecDepth 100000 in
theorem open_how {W : World} {b0 base : Nat} {r : Reach} {sp : Nat → Bool} {hd : Bool} {v : Value} {d : DataW H} {p : List MemPlace} {ts : List TypeId} {ds : List (DataW H)} {j : Nat}
  (hsz : (DataW.weightsEach Try.prog ts ds).all (· ≤ reachBytes) = true) (htj : ts[j]? = some 74) (hdj : ds[j]? = some d) (hv : Value.okWide Try.prog W r b0 74 v) (h : DataW.Trod enc Try.prog W base sp hd 74 v d p) :
  ∃ (st wd fv : Int) (g0 g1 g2 : ByteArray), v = .agg #[.int .i64 st, .int .i64 wd, .int .i64 fv, .string g0, .string g1, .string g2] ∧ d = .agg [.lit (.int .i64 st), .lit (.int .i64 wd), .lit (.int .i64 fv), .lit (.string g0.data.toList), .lit (.string g1.data.toList), .lit (.string g2.data.toList)] ∧ p = [] ∧
   ((Lit.int .i64 st).wf = true ∧ (Lit.int .i64 wd).wf = true ∧ (Lit.int .i64 fv).wf = true) ∧ (g0.size ≤ 140737488351232 ∧ g1.size ≤ 140737488351232 ∧ g2.size ≤ 140737488351232) := by
 have hs := Try.underlying74
 have hi := Try.underlying3
 have hg := Try.underlying9
 obtain ⟨cs, rfl, hcs⟩ := okWide_struct hs hv
 have hc6 : cs.size = 6 := hcs.trans (by kernel_rfl)
 obtain ⟨l⟩ := cs
 match l, hc6 with
 | [c0, c1, c2, c3, c4, c5], _ =>
  obtain ⟨fuel, hf⟩ := h
  obtain ⟨xs, n, _, hx, _, hlen, hgt⟩ := DataW.trod_struct hs hf
  have k3 : Try.prog.cellsOf 3 = 1 := by kernel_rfl
  have k9 : Try.prog.cellsOf 9 = 1 := by kernel_rfl
  match xs, hlen with
  | [y0, y1, y2, y3, y4, y5], _ =>
   have t0 := hgt 0 _ rfl
   have t1 := hgt 1 _ rfl
   have t2 := hgt 2 _ rfl
   have t3 := hgt 3 _ rfl
   have t4 := hgt 4 _ rfl
   have t5 := hgt 5 _ rfl
   simp [Value.cells, k3, k9] at t0 t1 t2 t3 t4 t5
   obtain ⟨st, e0, rfl, w0⟩ := DataW.trod_int hi t0
   obtain ⟨wd, e1, rfl, w1⟩ := DataW.trod_int hi t1
   obtain ⟨fv, e2, rfl, w2⟩ := DataW.trod_int hi t2
   obtain ⟨g0, e3, rfl, s0⟩ := DataW.trod_string hg t3
   obtain ⟨g1, e4, rfl, s1⟩ := DataW.trod_string hg t4
   obtain ⟨g2, e5, rfl, s2⟩ := DataW.trod_string hg t5
   simp at e0 e1 e2 e3 e4 e5 hx
   subst e0 e1 e2 e3 e4 e5
   obtain ⟨rfl, rfl⟩ := hx
   have hmem : ∀ (q : Nat) (s : ByteArray), [(.lit (.int .i64 st) : DataW H), .lit (.int .i64 wd), .lit (.int .i64 fv), .lit (.string g0.data.toList), .lit (.string g1.data.toList), .lit (.string g2.data.toList)][q]? = some (.lit (.string s.data.toList)) → ([3, 3, 3, 9, 9, 9] : List TypeId)[q]? = some 9 → s.size ≤ 140737488351232 := by
    intro q s hq hq9
    have h1 : s.data.toList.length ∈ DataW.weights Try.prog 74 (.agg [(.lit (.int .i64 st) : DataW H), .lit (.int .i64 wd), .lit (.int .i64 fv), .lit (.string g0.data.toList), .lit (.string g1.data.toList), .lit (.string g2.data.toList)]) := by
     simp only [DataW.weights, hs]
     exact DataW.weights_mem_each (j := q) (t := 9) hq9 hq _ (by simp [DataW.weights])
    have := List.all_eq_true.1 hsz _ (DataW.weights_mem_each htj hdj _ h1)
    rw [Array.length_toList] at this
    have hr : reachBytes = 140737488351232 := rfl
    simpa [hr] using this
   exact ⟨st, wd, fv, g0, g1, g2, rfl, rfl, rfl, ⟨w0, w1, w2⟩, hmem 3 g0 rfl rfl, hmem 4 g1 rfl rfl, hmem 5 g2 rfl rfl⟩
end
end Go.Proofs.Ytfiamddinkokbaa.F
end
