/- Texts joined into one file (wip/tools/pack.py): Fn52 -/
import Derived.Test.YtfiamddinkokbaaPB3
import Derived.Test.YtfiamddinkokbaaPB16
import Derived.Test.YtfiamddinkokbaaPB17
import Derived.Test.YtfiamddinkokbaaPB18
set_option linter.unusedVariables false
set_option linter.unusedSimpArgs false
namespace Go.Proofs.Ytfiamddinkokbaa.F
open Go.RowKit Go.Proofs.YtfiamddinkokbaaW.PrintWords Go.Proofs.YtfiamddinkokbaaW.PrintLast Go.Proofs.YtfiamddinkokbaaW.PrintMore
attribute [local go_sem] max2_int min2_int max_two min_two max_three min_three max_four min_four
def mark_Read.j0 : Nat → ByteArray → Int → Int → Bool → ByteArray → Option (Int × Bool × ByteArray × Bool × Int)
 | 0, _, _, _, _, _ => none
 | k + 1, x0, x1, x347000, x347001, x347002 => (mark_Marker_may.f x347000 x347001 x347002).bind fun t352 => (if t352 = true then ((mark_Marker_line.f x347000 x347001 x347002 x1).bind fun t353 => (if t353.toList = x0.toList then (some (x347000, x347001, x347002, true, 0)) else (some (0, false, (⟨#[]⟩ : ByteArray), false, 6)))) else (some (0, false, (⟨#[]⟩ : ByteArray), false, 6)))
def mark_Read.f (k : Nat) (a0 : ByteArray) (a1 : Int) : Option (Int × Bool × ByteArray × Bool × Int) := (mark_wide.f a1).bind fun t344 => (if t344 = true then ((lines_Run.f a0).bind fun t345 => (if t345 < a1 then (some (0, false, (⟨#[]⟩ : ByteArray), false, 0)) else (if 0 < (a0.size : Int) then (if 0 ≤ a1 then (if a1 ≤ (a0.size : Int) then ((strings_CutPrefix.f (a0.extract (a1 : Int).toNat a0.size) (⟨#[33]⟩ : ByteArray)).bind fun bt347 => ((strings_TrimSuffix.f bt347.1 (⟨#[10]⟩ : ByteArray)).bind fun t349 => ((strings_CutPrefix.f t349 (⟨#[32]⟩ : ByteArray)).bind fun bt350 => (if bt350.2 = true then (mark_Read.j0 k a0 a1 (bt a0 0) bt347.2 bt350.1) else (mark_Read.j0 k a0 a1 (bt a0 0) bt347.2 (⟨#[]⟩ : ByteArray)))))) else (none)) else (none)) else (none)))) else (some (0, false, (⟨#[]⟩ : ByteArray), false, 4)))
theorem mark_Read.mono_l : ∀ k, (∀ y0 y1 y2 y3 y4, LeO (mark_Read.j0 k y0 y1 y2 y3 y4) (mark_Read.j0 (k + 1) y0 y1 y2 y3 y4))
 | 0 => fun _ _ _ _ _ r h => by simp [mark_Read.j0] at h
 | k + 1 => by
  have ih0 := mark_Read.mono_l k
  ·intro y0 y1 y2 y3 y4
   unfold mark_Read.j0
   repeat' first
   | (with_reducible exact ih0 _ _ _ _ _)
   | (with_reducible exact LeO.refl _)
   | (with_reducible exact LeO.none _)
   | (with_reducible refine LeO.ite ?_ ?_)
   | (with_reducible refine LeO.bind ?_ (fun _ => ?_))
   | exact ih0 _ _ _ _ _
   | exact LeO.none _
   | refine LeO.ite ?_ ?_
   | refine LeO.bind ?_ (fun _ => ?_)
theorem mark_Read.mono : ∀ a0 a1 k, LeO (mark_Read.f k a0 a1) (mark_Read.f (k + 1) a0 a1) := by
 intro a0 a1 k
 have ih0 := mark_Read.mono_l k
 unfold mark_Read.f
 repeat' first
   | (with_reducible exact ih0 _ _ _ _ _)
   | (with_reducible exact LeO.refl _)
   | (with_reducible exact LeO.none _)
   | (with_reducible refine LeO.ite ?_ ?_)
   | (with_reducible refine LeO.bind ?_ (fun _ => ?_))
   | exact ih0 _ _ _ _ _
   | exact LeO.none _
   | refine LeO.ite ?_ ?_
   | refine LeO.bind ?_ (fun _ => ?_)
set_option maxHeartbeats 8000000 in
set_option maxRecDepth 100000 in
theorem mark_Read.calls (k : Nat) (a0 : ByteArray) (a1 : Int) (r1 : Int) (r2 : Bool) (r3 : ByteArray) (r4 : Bool) (r5 : Int) (w : World) (h : mark_Read.f k a0 a1 = some (r1, r2, r3, r4, r5)) :
  Calls Try.prog 52 #[.string a0, .int .i64 a1] w fun e w' => e = .returned (.tuple #[.agg #[.int .u8 r1, .bool r2, .string r3], .bool r4, .int .i64 r5]) ∧ Below w.heap.size w w' := by
 have hu62 := Try.underlying62
 have HB := Aside0.mk (Below.refl w.heap.size w)
 have H : ((mark_wide.f a1).bind fun t344 => (if t344 = true then ((lines_Run.f a0).bind fun t345 => (if t345 < a1 then (some (0, false, (⟨#[]⟩ : ByteArray), false, 0)) else (if 0 < (a0.size : Int) then (if 0 ≤ a1 then (if a1 ≤ (a0.size : Int) then ((strings_CutPrefix.f (a0.extract (a1 : Int).toNat a0.size) (⟨#[33]⟩ : ByteArray)).bind fun bt347 => ((strings_TrimSuffix.f bt347.1 (⟨#[10]⟩ : ByteArray)).bind fun t349 => ((strings_CutPrefix.f t349 (⟨#[32]⟩ : ByteArray)).bind fun bt350 => (if bt350.2 = true then (mark_Read.j0 k a0 a1 (bt a0 0) bt347.2 bt350.1) else (mark_Read.j0 k a0 a1 (bt a0 0) bt347.2 (⟨#[]⟩ : ByteArray)))))) else (none)) else (none)) else (none)))) else (some (0, false, (⟨#[]⟩ : ByteArray), false, 4)))) = some (r1, r2, r3, r4, r5) := h
 clear h
 replace H := Option.bind_eq_some_iff.mp H
 obtain ⟨t344, A30, H⟩ := H
 replace H : (if t344 = true then ((lines_Run.f a0).bind fun t345 => (if t345 < a1 then (some (0, false, (⟨#[]⟩ : ByteArray), false, 0)) else (if 0 < (a0.size : Int) then (if 0 ≤ a1 then (if a1 ≤ (a0.size : Int) then ((strings_CutPrefix.f (a0.extract (a1 : Int).toNat a0.size) (⟨#[33]⟩ : ByteArray)).bind fun bt347 => ((strings_TrimSuffix.f bt347.1 (⟨#[10]⟩ : ByteArray)).bind fun t349 => ((strings_CutPrefix.f t349 (⟨#[32]⟩ : ByteArray)).bind fun bt350 => (if bt350.2 = true then (mark_Read.j0 k a0 a1 (bt a0 0) bt347.2 bt350.1) else (mark_Read.j0 k a0 a1 (bt a0 0) bt347.2 (⟨#[]⟩ : ByteArray)))))) else (none)) else (none)) else (none)))) else (some (0, false, (⟨#[]⟩ : ByteArray), false, 4))) = some (r1, r2, r3, r4, r5) := H
 have A3 := Aside0.mk A30
 clear A30
 by_cases c4 : t344 = true
 ·subst c4
  have H1 : ((lines_Run.f a0).bind fun t345 => (if t345 < a1 then (some (0, false, (⟨#[]⟩ : ByteArray), false, 0)) else (if 0 < (a0.size : Int) then (if 0 ≤ a1 then (if a1 ≤ (a0.size : Int) then ((strings_CutPrefix.f (a0.extract (a1 : Int).toNat a0.size) (⟨#[33]⟩ : ByteArray)).bind fun bt347 => ((strings_TrimSuffix.f bt347.1 (⟨#[10]⟩ : ByteArray)).bind fun t349 => ((strings_CutPrefix.f t349 (⟨#[32]⟩ : ByteArray)).bind fun bt350 => (if bt350.2 = true then (mark_Read.j0 k a0 a1 (bt a0 0) bt347.2 bt350.1) else (mark_Read.j0 k a0 a1 (bt a0 0) bt347.2 (⟨#[]⟩ : ByteArray)))))) else (none)) else (none)) else (none)))) = some (r1, r2, r3, r4, r5) := by rw [if_pos rfl] at H; exact H
  clear H
  have H := H1
  clear H1
  replace H := Option.bind_eq_some_iff.mp H
  obtain ⟨t345, A50, H⟩ := H
  replace H : (if t345 < a1 then (some (0, false, (⟨#[]⟩ : ByteArray), false, 0)) else (if 0 < (a0.size : Int) then (if 0 ≤ a1 then (if a1 ≤ (a0.size : Int) then ((strings_CutPrefix.f (a0.extract (a1 : Int).toNat a0.size) (⟨#[33]⟩ : ByteArray)).bind fun bt347 => ((strings_TrimSuffix.f bt347.1 (⟨#[10]⟩ : ByteArray)).bind fun t349 => ((strings_CutPrefix.f t349 (⟨#[32]⟩ : ByteArray)).bind fun bt350 => (if bt350.2 = true then (mark_Read.j0 k a0 a1 (bt a0 0) bt347.2 bt350.1) else (mark_Read.j0 k a0 a1 (bt a0 0) bt347.2 (⟨#[]⟩ : ByteArray)))))) else (none)) else (none)) else (none))) = some (r1, r2, r3, r4, r5) := H
  have A5 := Aside0.mk A50
  clear A50
  by_cases c6 : t345 < a1
  ·rw [if_pos c6] at H
   have c6b0 : decide (t345 < a1) = true := decide_eq_true c6
   clear c6
   simp only [Option.some.injEq, Prod.mk.injEq] at H
   obtain ⟨rfl, rfl, rfl, rfl, rfl⟩ := H
   go_enter Try.func52, Try.ntmps52
   go_wp2_with (first | ((with_reducible refine gate_dst (N := 4) rfl ?_); refine box_event ?hg (N := 4) ?hd (cs := #[.int .u8 0, .bool false, .string (⟨#[]⟩ : ByteArray)]) (t := 62) ?hr ?_; (case hd => rfl); (case hg => rfl); (case hr => first | (go_simp; done) | (go_simp; rfl)); intro gb343 hg w7 hbox hb; have n0_ := Aside0.mk (below_step (by repeat (first | (with_reducible first | exact HB.out | apply below_alloc | apply pw_below_drewN | apply below_drew1) | exact HB.out)) hb); have n1_ := Aside0.mk (hbox); have n2_ := Aside0.mk ((by rw [hg]; exact (below_size (by repeat (first | (with_reducible first | exact HB.out | apply below_alloc | apply pw_below_drewN | apply below_drew1) | exact HB.out))) : w.heap.size ≤ gb343)); have n3_ := Aside0.mk ((by rw [hg]; exact (below_size (by repeat (first | (with_reducible first | exact HB.out | apply below_alloc | apply pw_below_drewN | apply below_drew1) | exact HB.out))) : w.heap.size ≤ gb343)); clear HB; have HB := n0_; have BK343 := n1_; have GW343 := n2_; have GE343 := n3_; clear n0_ n1_ n2_ n3_; clear hb hbox hg) | ((with_reducible refine gate_callee (f := 86) rfl ?_); refine goesL_ (some 13) rfl rfl Try.func86 (by kernel_rfl) rfl #[.int .i64 a1] rfl (by (try simp only [List.map_toArray, List.map_cons, List.map_nil]); first | done | rfl | (simp only [List.length_drop, List.length_take]; rfl)) ?_; (with_reducible refine (mark_wide.calls a1 true _ A3.out).mono ?_); rintro e w' ⟨rfl, ⟨nd, rfl⟩⟩; refine ⟨_, rfl, ?_⟩; (try (rw [drewN_self w7]; generalize hq_ : World.drewN w7 _ = w7; have n0_ : Aside0 (w7.heap[gb343]? = some (.cells #[.int .u8 0, .bool false, .string (⟨#[]⟩ : ByteArray)] 62 (0, 0))) := ⟨by rw [← hq_]; exact (by (with_reducible repeat (first | refine blk_drewN ?_ _ | refine blk_drew ?_ | refine blk_alloc ?_ _)); exact BK343.out)⟩; have n1_ : Aside0 (Below w.heap.size w w7) := ⟨by rw [← hq_]; exact (by repeat (first | (with_reducible first | exact HB.out | apply below_alloc | apply pw_below_drewN | apply below_drew1 | refine below_set ?_ GE343.out) | exact HB.out))⟩; clear BK343 HB hq_; have BK343 := n0_; have HB := n1_; clear n0_ n1_))) | ((with_reducible refine gate_callee (f := 43) rfl ?_); refine goesL_ (some 18) rfl rfl Try.func43 (by kernel_rfl) rfl #[.string a0] rfl (by (try simp only [List.map_toArray, List.map_cons, List.map_nil]); first | done | rfl | (simp only [List.length_drop, List.length_take]; rfl)) ?_; (with_reducible refine (lines_Run.calls a0 t345 _ A5.out).mono ?_); rintro e w8 ⟨rfl, hb⟩; refine ⟨_, rfl, ?_⟩; have n0_ := Aside0.mk (blk_below (g := gb343) (o := .cells #[.int .u8 0, .bool false, .string (⟨#[]⟩ : ByteArray)] 62 (0, 0)) (by (with_reducible repeat (first | refine blk_drewN ?_ _ | refine blk_drew ?_ | refine blk_alloc ?_ _)); exact BK343.out) hb); have n1_ := Aside0.mk (below_step (by repeat (first | (with_reducible first | exact HB.out | apply below_alloc | apply pw_below_drewN | apply below_drew1 | refine below_set ?_ GE343.out) | exact HB.out)) hb); clear BK343; clear HB; have BK343 := n0_; have HB := n1_; clear n0_ n1_; (try clear hb); (try clear hb2); (try clear hk); (try clear hi); have hcz9_0 : w8.cell? ⟨gb343, 0, none⟩ = some (.int .u8 0) := (blk_cell BK343.out 0).trans rfl; have hcz9_1 : w8.cell? ⟨gb343, 1, none⟩ = some (.bool false) := (blk_cell BK343.out 1).trans rfl; have hcz9_2 : w8.cell? ⟨gb343, 2, none⟩ = some (.string (⟨#[]⟩ : ByteArray)) := (blk_cell BK343.out 2).trans rfl; have hfz9_0 := blk_frozen BK343.out 0; have hfz9_1 := blk_frozen BK343.out 1; have hfz9_2 := blk_frozen BK343.out 2))
   refine bodyPost_ret (results_ctt rfl _ _ gb343 62 #[.int .u8 0, .bool false, .string (⟨#[]⟩ : ByteArray)] (0, 0) _ rfl (by (with_reducible repeat (first | refine blk_drewN ?_ _ | refine blk_drew ?_ | refine blk_alloc ?_ _)); refine blk_put (cs := #[.int .u8 0, .bool false, .string (⟨#[]⟩ : ByteArray)]) ?_ 2 _ rfl; (with_reducible repeat (first | refine blk_drewN ?_ _ | refine blk_drew ?_ | refine blk_alloc ?_ _)); refine blk_put (cs := #[.int .u8 0, .bool false, .string (⟨#[]⟩ : ByteArray)]) ?_ 1 _ rfl; (with_reducible repeat (first | refine blk_drewN ?_ _ | refine blk_drew ?_ | refine blk_alloc ?_ _)); refine blk_put (cs := #[.int .u8 0, .bool false, .string (⟨#[]⟩ : ByteArray)]) ?_ 0 _ rfl; (with_reducible repeat (first | refine blk_drewN ?_ _ | refine blk_drew ?_ | refine blk_alloc ?_ _)); exact BK343.out) Try.underlying62 rfl (by kernel_rfl)) rfl ?_
   exact ⟨by first | rfl | (simp [errW_none, errW_some] <;> rfl) | (simp [*, errW_none, errW_some] <;> rfl), by repeat (first | (with_reducible first | exact HB.out | apply below_alloc | apply pw_below_drewN | apply below_drew1 | refine below_set ?_ GE343.out) | exact HB.out)⟩
  ·rw [if_neg c6] at H
   have c6b0 : decide (t345 < a1) = false := decide_eq_false c6
   clear c6
   by_cases c10 : 0 < (a0.size : Int)
   ·rw [if_pos c10] at H
    have c10b0 : decide (0 < (a0.size : Int)) = true := decide_eq_true c10
    have c10b1 : decide (0 < a0.size) = true := decide_eq_true (by omega)
    clear c10
    by_cases c12 : 0 ≤ a1
    ·rw [if_pos c12] at H
     have c12b0 := eq_true c12
     have c12b1 : decide (0 ≤ a1) = true := decide_eq_true c12
     clear c12
     by_cases c13 : a1 ≤ (a0.size : Int)
     ·rw [if_pos c13] at H
      have c13b0 := eq_true c13
      have c13b1 : decide (a1 ≤ (a0.size : Int)) = true := decide_eq_true c13
      clear c13
      replace H := Option.bind_eq_some_iff.mp H
      obtain ⟨⟨t347, t348⟩, A140, H⟩ := H
      replace H : ((strings_TrimSuffix.f t347 (⟨#[10]⟩ : ByteArray)).bind fun t349 => ((strings_CutPrefix.f t349 (⟨#[32]⟩ : ByteArray)).bind fun bt350 => (if bt350.2 = true then (mark_Read.j0 k a0 a1 (bt a0 0) t348 bt350.1) else (mark_Read.j0 k a0 a1 (bt a0 0) t348 (⟨#[]⟩ : ByteArray))))) = some (r1, r2, r3, r4, r5) := H
      have A14 := Aside0.mk A140
      clear A140
      replace H := Option.bind_eq_some_iff.mp H
      obtain ⟨t349, A150, H⟩ := H
      replace H : ((strings_CutPrefix.f t349 (⟨#[32]⟩ : ByteArray)).bind fun bt350 => (if bt350.2 = true then (mark_Read.j0 k a0 a1 (bt a0 0) t348 bt350.1) else (mark_Read.j0 k a0 a1 (bt a0 0) t348 (⟨#[]⟩ : ByteArray)))) = some (r1, r2, r3, r4, r5) := H
      have A15 := Aside0.mk A150
      clear A150
      replace H := Option.bind_eq_some_iff.mp H
      obtain ⟨⟨t350, t351⟩, A160, H⟩ := H
      replace H : (if t351 = true then (mark_Read.j0 k a0 a1 (bt a0 0) t348 t350) else (mark_Read.j0 k a0 a1 (bt a0 0) t348 (⟨#[]⟩ : ByteArray))) = some (r1, r2, r3, r4, r5) := H
      have A16 := Aside0.mk A160
      clear A160
      have HC17 := Aside0.mk H
      clear H
      go_enter Try.func52, Try.ntmps52
      go_upto_if 40 with (first | ((with_reducible refine gate_dst (N := 4) rfl ?_); refine box_event ?hg (N := 4) ?hd (cs := #[.int .u8 0, .bool false, .string (⟨#[]⟩ : ByteArray)]) (t := 62) ?hr ?_; (case hd => rfl); (case hg => rfl); (case hr => first | (go_simp; done) | (go_simp; rfl)); intro gb343 hg w18 hbox hb; have n0_ := Aside0.mk (below_step (by repeat (first | (with_reducible first | exact HB.out | apply below_alloc | apply pw_below_drewN | apply below_drew1) | exact HB.out)) hb); have n1_ := Aside0.mk (hbox); have n2_ := Aside0.mk ((by rw [hg]; exact (below_size (by repeat (first | (with_reducible first | exact HB.out | apply below_alloc | apply pw_below_drewN | apply below_drew1) | exact HB.out))) : w.heap.size ≤ gb343)); have n3_ := Aside0.mk ((by rw [hg]; exact (below_size (by repeat (first | (with_reducible first | exact HB.out | apply below_alloc | apply pw_below_drewN | apply below_drew1) | exact HB.out))) : w.heap.size ≤ gb343)); clear HB; have HB := n0_; have BK343 := n1_; have GW343 := n2_; have GE343 := n3_; clear n0_ n1_ n2_ n3_; clear hb hbox hg) | ((with_reducible refine gate_callee (f := 86) rfl ?_); refine goesL_ (some 13) rfl rfl Try.func86 (by kernel_rfl) rfl #[.int .i64 a1] rfl (by (try simp only [List.map_toArray, List.map_cons, List.map_nil]); first | done | rfl | (simp only [List.length_drop, List.length_take]; rfl)) ?_; (with_reducible refine (mark_wide.calls a1 true _ A3.out).mono ?_); rintro e w' ⟨rfl, ⟨nd, rfl⟩⟩; refine ⟨_, rfl, ?_⟩; (try (rw [drewN_self w18]; generalize hq_ : World.drewN w18 _ = w18; have n0_ : Aside0 (w18.heap[gb343]? = some (.cells #[.int .u8 0, .bool false, .string (⟨#[]⟩ : ByteArray)] 62 (0, 0))) := ⟨by rw [← hq_]; exact (by (with_reducible repeat (first | refine blk_drewN ?_ _ | refine blk_drew ?_ | refine blk_alloc ?_ _)); exact BK343.out)⟩; have n1_ : Aside0 (Below w.heap.size w w18) := ⟨by rw [← hq_]; exact (by repeat (first | (with_reducible first | exact HB.out | apply below_alloc | apply pw_below_drewN | apply below_drew1 | refine below_set ?_ GE343.out) | exact HB.out))⟩; clear BK343 HB hq_; have BK343 := n0_; have HB := n1_; clear n0_ n1_))) | ((with_reducible refine gate_callee (f := 43) rfl ?_); refine goesL_ (some 18) rfl rfl Try.func43 (by kernel_rfl) rfl #[.string a0] rfl (by (try simp only [List.map_toArray, List.map_cons, List.map_nil]); first | done | rfl | (simp only [List.length_drop, List.length_take]; rfl)) ?_; (with_reducible refine (lines_Run.calls a0 t345 _ A5.out).mono ?_); rintro e w19 ⟨rfl, hb⟩; refine ⟨_, rfl, ?_⟩; have n0_ := Aside0.mk (blk_below (g := gb343) (o := .cells #[.int .u8 0, .bool false, .string (⟨#[]⟩ : ByteArray)] 62 (0, 0)) (by (with_reducible repeat (first | refine blk_drewN ?_ _ | refine blk_drew ?_ | refine blk_alloc ?_ _)); exact BK343.out) hb); have n1_ := Aside0.mk (below_step (by repeat (first | (with_reducible first | exact HB.out | apply below_alloc | apply pw_below_drewN | apply below_drew1 | refine below_set ?_ GE343.out) | exact HB.out)) hb); clear BK343; clear HB; have BK343 := n0_; have HB := n1_; clear n0_ n1_; (try clear hb); (try clear hb2); (try clear hk); (try clear hi); have p11 : 0 ≤ (0 : Int) := (by omega); have q11 : 0 < a0.size := (by have : (0 : Int) < (a0.size : Int) := of_decide_eq_true (by first | (with_reducible assumption) | assumption); omega); have hx11 : ∀ h : 0 < a0.size, ((a0[0]'h).toNat : Int) = bt a0 0 := bt_at a0 0; clear p11; have qi11 : (0 < (a0.size : Int)) = True := eq_true (of_decide_eq_true (by first | (with_reducible assumption) | assumption)); replace q11 := eq_true q11) | ((with_reducible refine gate_dst (N := 7) rfl ?_); refine box_event ?hg (N := 7) ?hd (cs := #[.int .u8 0, .bool false, .string (⟨#[]⟩ : ByteArray)]) (t := 62) ?hr ?_; (case hd => rfl); (case hg => rfl); (case hr => first | (go_simp; done) | (go_simp; rfl)); intro gb346 hg w20 hbox hb; have n0_ := Aside0.mk (blk_below (g := gb343) (o := .cells #[.int .u8 0, .bool false, .string (⟨#[]⟩ : ByteArray)] 62 (0, 0)) (by (with_reducible repeat (first | refine blk_drewN ?_ _ | refine blk_drew ?_ | refine blk_alloc ?_ _)); exact BK343.out) hb); have n1_ := Aside0.mk (below_step (by repeat (first | (with_reducible first | exact HB.out | apply below_alloc | apply pw_below_drewN | apply below_drew1 | refine below_set ?_ GE343.out) | exact HB.out)) hb); have n2_ := Aside0.mk (hbox); have n3_ := Aside0.mk ((by rw [hg]; exact (below_size (by repeat (first | (with_reducible first | exact HB.out | apply below_alloc | apply pw_below_drewN | apply below_drew1 | refine below_set ?_ GE343.out) | exact HB.out))) : w.heap.size ≤ gb346)); have n4_ := Aside0.mk ((by rw [hg]; exact (below_size (by repeat (first | (with_reducible first | exact HB.out | apply below_alloc | apply pw_below_drewN | apply below_drew1 | refine below_set ?_ GE343.out) | exact HB.out))) : w.heap.size ≤ gb346)); have n5_ := Aside0.mk ((by rw [hg]; exact Nat.ne_of_lt (blk_lt (g := gb343) (o := .cells #[.int .u8 0, .bool false, .string (⟨#[]⟩ : ByteArray)] 62 (0, 0)) (by (with_reducible repeat (first | refine blk_drewN ?_ _ | refine blk_drew ?_ | refine blk_alloc ?_ _)); exact BK343.out)) : gb343 ≠ gb346)); have n6_ := Aside0.mk ((by rw [hg]; exact Nat.ne_of_gt (blk_lt (g := gb343) (o := .cells #[.int .u8 0, .bool false, .string (⟨#[]⟩ : ByteArray)] 62 (0, 0)) (by (with_reducible repeat (first | refine blk_drewN ?_ _ | refine blk_drew ?_ | refine blk_alloc ?_ _)); exact BK343.out)) : gb346 ≠ gb343)); clear BK343; clear HB; have BK343 := n0_; have HB := n1_; have BK346 := n2_; have GW346 := n3_; have GE346 := n4_; have NB343_346 := n5_; have NB346_343 := n6_; clear n0_ n1_ n2_ n3_ n4_ n5_ n6_; clear hb hbox hg; have hnb21 := NB346_343.out; have hnc21 := NB343_346.out; have hcz22_0 : w20.cell? ⟨gb346, 0, none⟩ = some (.int .u8 0) := (blk_cell BK346.out 0).trans rfl; have hcz22_1 : w20.cell? ⟨gb346, 1, none⟩ = some (.bool false) := (blk_cell BK346.out 1).trans rfl; have hcz22_2 : w20.cell? ⟨gb346, 2, none⟩ = some (.string (⟨#[]⟩ : ByteArray)) := (blk_cell BK346.out 2).trans rfl; have hfz22_0 := blk_frozen BK346.out 0; have hfz22_1 := blk_frozen BK346.out 1; have hfz22_2 := blk_frozen BK346.out 2) | ((with_reducible refine gate_callee (f := 98) rfl ?_); refine goesL_ (some 30) rfl rfl Try.func98 (by kernel_rfl) rfl #[.string (a0.extract (a1 : Int).toNat a0.size), .string (⟨#[33]⟩ : ByteArray)] rfl (by (try simp only [List.map_toArray, List.map_cons, List.map_nil]); first | done | rfl | (simp only [List.length_drop, List.length_take]; rfl)) ?_; (with_reducible refine (strings_CutPrefix.calls (a0.extract (a1 : Int).toNat a0.size) (⟨#[33]⟩ : ByteArray) t347 t348 _ A14.out).mono ?_); rintro e w' ⟨rfl, ⟨nd, rfl⟩⟩; refine ⟨_, rfl, ?_⟩) | ((with_reducible refine gate_callee (f := 99) rfl ?_); refine goesL_ (some 36) rfl rfl Try.func99 (by kernel_rfl) rfl #[.string t347, .string (⟨#[10]⟩ : ByteArray)] rfl (by (try simp only [List.map_toArray, List.map_cons, List.map_nil]); first | done | rfl | (simp only [List.length_drop, List.length_take]; rfl)) ?_; (with_reducible refine (strings_TrimSuffix.calls t347 (⟨#[10]⟩ : ByteArray) t349 _ A15.out).mono ?_); rintro e w' ⟨rfl, ⟨nd, rfl⟩⟩; refine ⟨_, rfl, ?_⟩) | ((with_reducible refine gate_callee (f := 98) rfl ?_); refine goesL_ (some 37) rfl rfl Try.func98 (by kernel_rfl) rfl #[.string t349, .string (⟨#[32]⟩ : ByteArray)] rfl (by (try simp only [List.map_toArray, List.map_cons, List.map_nil]); first | done | rfl | (simp only [List.length_drop, List.length_take]; rfl)) ?_; (with_reducible refine (strings_CutPrefix.calls t349 (⟨#[32]⟩ : ByteArray) t350 t351 _ A16.out).mono ?_); rintro e w' ⟨rfl, ⟨nd, rfl⟩⟩; refine ⟨_, rfl, ?_⟩))
      (try simp only [Act.put, List.setIfInBounds_toArray, List.set_cons_zero, List.set_cons_succ])
      go_cut [] (fun wc => ∃ (kq : Nat) (x347002_16 : ByteArray), Aside0 (mark_Read.j0 kq a0 a1 (bt a0 0) t348 x347002_16 = some (r1, r2, r3, r4, r5)) ∧ Aside0 (kq ≤ k) ∧ Aside0 (wc.heap[gb343]? = some (.cells #[.int .u8 0, .bool false, .string (⟨#[]⟩ : ByteArray)] 62 (0, 0))) ∧ Aside0 (wc.heap[gb346]? = some (.cells #[.int .u8 (bt a0 0), .bool t348, .string x347002_16] 62 (0, 0))) ∧ Aside0 (Below w.heap.size w wc))
      case first =>
       have H := HC17.out
       clear HC17
       by_cases c23 : t351 = true
       ·subst c23
        have H1 : (mark_Read.j0 k a0 a1 (bt a0 0) t348 t350) = some (r1, r2, r3, r4, r5) := by rw [if_pos rfl] at H; exact H
        clear H
        have H := H1
        clear H1
        have H' := Aside0.mk H
        clear H
        have hnb24 := NB346_343.out
        have hnc24 := NB343_346.out
        have hcz25_0 : w20.cell? ⟨gb346, 0, none⟩ = some (.int .u8 0) := (blk_cell BK346.out 0).trans rfl
        have hcz25_1 : w20.cell? ⟨gb346, 1, none⟩ = some (.bool false) := (blk_cell BK346.out 1).trans rfl
        have hcz25_2 : w20.cell? ⟨gb346, 2, none⟩ = some (.string (⟨#[]⟩ : ByteArray)) := (blk_cell BK346.out 2).trans rfl
        have hfz25_0 := blk_frozen BK346.out 0
        have hfz25_1 := blk_frozen BK346.out 1
        have hfz25_2 := blk_frozen BK346.out 2
        go_wp2
        go_meet
        case rel => exact ⟨_, (t350), H', ⟨by first | omega | exact Nat.le_refl _⟩, ⟨by (with_reducible repeat (first | refine blk_drewN ?_ _ | refine blk_drew ?_ | refine blk_alloc ?_ _)); refine blk_far ?_ NB343_346.out _; (with_reducible repeat (first | refine blk_drewN ?_ _ | refine blk_drew ?_ | refine blk_alloc ?_ _)); refine blk_far ?_ NB343_346.out _; (with_reducible repeat (first | refine blk_drewN ?_ _ | refine blk_drew ?_ | refine blk_alloc ?_ _)); refine blk_far ?_ NB343_346.out _; (with_reducible repeat (first | refine blk_drewN ?_ _ | refine blk_drew ?_ | refine blk_alloc ?_ _)); refine blk_far ?_ NB343_346.out _; (with_reducible repeat (first | refine blk_drewN ?_ _ | refine blk_drew ?_ | refine blk_alloc ?_ _)); refine blk_far ?_ NB343_346.out _; (with_reducible repeat (first | refine blk_drewN ?_ _ | refine blk_drew ?_ | refine blk_alloc ?_ _)); exact BK343.out⟩, ⟨by (with_reducible repeat (first | refine blk_drewN ?_ _ | refine blk_drew ?_ | refine blk_alloc ?_ _)); refine blk_put (cs := #[.int .u8 (bt a0 0), .bool t348, .string (⟨#[]⟩ : ByteArray)]) ?_ 2 _ rfl; (with_reducible repeat (first | refine blk_drewN ?_ _ | refine blk_drew ?_ | refine blk_alloc ?_ _)); refine blk_put (cs := #[.int .u8 (bt a0 0), .bool false, .string (⟨#[]⟩ : ByteArray)]) ?_ 1 _ rfl; (with_reducible repeat (first | refine blk_drewN ?_ _ | refine blk_drew ?_ | refine blk_alloc ?_ _)); refine blk_put (cs := #[.int .u8 (bt a0 0), .bool false, .string (⟨#[]⟩ : ByteArray)]) ?_ 2 _ rfl; (with_reducible repeat (first | refine blk_drewN ?_ _ | refine blk_drew ?_ | refine blk_alloc ?_ _)); refine blk_put (cs := #[.int .u8 (bt a0 0), .bool false, .string (⟨#[]⟩ : ByteArray)]) ?_ 1 _ rfl; (with_reducible repeat (first | refine blk_drewN ?_ _ | refine blk_drew ?_ | refine blk_alloc ?_ _)); refine blk_put (cs := #[.int .u8 0, .bool false, .string (⟨#[]⟩ : ByteArray)]) ?_ 0 _ rfl; (with_reducible repeat (first | refine blk_drewN ?_ _ | refine blk_drew ?_ | refine blk_alloc ?_ _)); exact BK346.out⟩, ⟨by repeat (first | (with_reducible first | exact HB.out | apply below_alloc | apply pw_below_drewN | apply below_drew1 | refine below_set ?_ GE343.out | refine below_set ?_ GE346.out) | exact HB.out)⟩⟩
       ·replace c23 := Bool.eq_false_iff.mpr c23
        subst c23
        have H1 : (mark_Read.j0 k a0 a1 (bt a0 0) t348 (⟨#[]⟩ : ByteArray)) = some (r1, r2, r3, r4, r5) := by rw [if_neg (show ¬ (false = true) by decide)] at H; exact H
        clear H
        have H := H1
        clear H1
        have H' := Aside0.mk H
        clear H
        go_wp2
        go_meet
        case rel => exact ⟨_, ((⟨#[]⟩ : ByteArray)), H', ⟨by first | omega | exact Nat.le_refl _⟩, ⟨by (with_reducible repeat (first | refine blk_drewN ?_ _ | refine blk_drew ?_ | refine blk_alloc ?_ _)); refine blk_far ?_ NB343_346.out _; (with_reducible repeat (first | refine blk_drewN ?_ _ | refine blk_drew ?_ | refine blk_alloc ?_ _)); refine blk_far ?_ NB343_346.out _; (with_reducible repeat (first | refine blk_drewN ?_ _ | refine blk_drew ?_ | refine blk_alloc ?_ _)); refine blk_far ?_ NB343_346.out _; (with_reducible repeat (first | refine blk_drewN ?_ _ | refine blk_drew ?_ | refine blk_alloc ?_ _)); refine blk_far ?_ NB343_346.out _; (with_reducible repeat (first | refine blk_drewN ?_ _ | refine blk_drew ?_ | refine blk_alloc ?_ _)); exact BK343.out⟩, ⟨by (with_reducible repeat (first | refine blk_drewN ?_ _ | refine blk_drew ?_ | refine blk_alloc ?_ _)); refine blk_put (cs := #[.int .u8 (bt a0 0), .bool false, .string (⟨#[]⟩ : ByteArray)]) ?_ 1 _ rfl; (with_reducible repeat (first | refine blk_drewN ?_ _ | refine blk_drew ?_ | refine blk_alloc ?_ _)); refine blk_put (cs := #[.int .u8 (bt a0 0), .bool false, .string (⟨#[]⟩ : ByteArray)]) ?_ 2 _ rfl; (with_reducible repeat (first | refine blk_drewN ?_ _ | refine blk_drew ?_ | refine blk_alloc ?_ _)); refine blk_put (cs := #[.int .u8 (bt a0 0), .bool false, .string (⟨#[]⟩ : ByteArray)]) ?_ 1 _ rfl; (with_reducible repeat (first | refine blk_drewN ?_ _ | refine blk_drew ?_ | refine blk_alloc ?_ _)); refine blk_put (cs := #[.int .u8 0, .bool false, .string (⟨#[]⟩ : ByteArray)]) ?_ 0 _ rfl; (with_reducible repeat (first | refine blk_drewN ?_ _ | refine blk_drew ?_ | refine blk_alloc ?_ _)); exact BK346.out⟩, ⟨by repeat (first | (with_reducible first | exact HB.out | apply below_alloc | apply pw_below_drewN | apply below_drew1 | refine below_set ?_ GE343.out | refine below_set ?_ GE346.out) | exact HB.out)⟩⟩
      case rest =>
       clear HC17
       try clear c1
       try clear p1
       try clear q1
       try clear hx1
       try clear qi1
       try clear c2
       try clear p2
       try clear c4
       try clear c5
       try clear c6
       try clear c6b0
       try clear c8
       try clear c9
       try clear c10
       try clear c10b0
       try clear c10b1
       try clear p11
       try clear q11
       try clear hx11
       try clear qi11
       try clear c12
       try clear c12b0
       try clear c12b1
       try clear c13
       try clear c13b0
       try clear c13b1
       try clear c21
       try clear c23
       try clear c24
       try clear hcz22_0
       try clear hcz22_1
       try clear hcz22_2
       try clear hcz25_0
       try clear hcz25_1
       try clear hcz25_2
       try clear hcz9_0
       try clear hcz9_1
       try clear hcz9_2
       try clear hfz22_0
       try clear hfz22_1
       try clear hfz22_2
       try clear hfz25_0
       try clear hfz25_1
       try clear hfz25_2
       try clear hfz9_0
       try clear hfz9_1
       try clear hfz9_2
       try clear p11
       try clear q11
       obtain ⟨kq, x347002_16, HA, HJ16, BK343, BK346, HB⟩ := hcut
       cases kq with
       | zero => exact absurd HA.out (by simp [mark_Read.j0])
       | succ kj16 =>
        have H := HA.out
        clear HA
        simp only [mark_Read.j0] at H
        replace H := Option.bind_eq_some_iff.mp H
        obtain ⟨t352, A260, H⟩ := H
        replace H : (if t352 = true then ((mark_Marker_line.f (bt a0 0) t348 x347002_16 a1).bind fun t353 => (if t353.toList = a0.toList then (some ((bt a0 0), t348, x347002_16, true, 0)) else (some (0, false, (⟨#[]⟩ : ByteArray), false, 6)))) else (some (0, false, (⟨#[]⟩ : ByteArray), false, 6))) = some (r1, r2, r3, r4, r5) := H
        have A26 := Aside0.mk A260
        clear A260
        by_cases c27 : t352 = true
        ·subst c27
         have H1 : ((mark_Marker_line.f (bt a0 0) t348 x347002_16 a1).bind fun t353 => (if t353.toList = a0.toList then (some ((bt a0 0), t348, x347002_16, true, 0)) else (some (0, false, (⟨#[]⟩ : ByteArray), false, 6)))) = some (r1, r2, r3, r4, r5) := by rw [if_pos rfl] at H; exact H
         clear H
         have H := H1
         clear H1
         replace H := Option.bind_eq_some_iff.mp H
         obtain ⟨t353, A280, H⟩ := H
         replace H : (if t353.toList = a0.toList then (some ((bt a0 0), t348, x347002_16, true, 0)) else (some (0, false, (⟨#[]⟩ : ByteArray), false, 6))) = some (r1, r2, r3, r4, r5) := H
         have A28 := Aside0.mk A280
         clear A280
         by_cases c29 : t353.toList = a0.toList
         ·rw [if_pos c29] at H
          have c29b0 : (t353.toList == a0.toList) = true := beq_iff_eq.mpr c29
          have c29b1 : (t353.toList != a0.toList) = false := bne_eq_false_iff_eq.mpr c29
          clear c29
          simp only [Option.some.injEq, Prod.mk.injEq] at H
          obtain ⟨rfl, rfl, rfl, rfl, rfl⟩ := H
          have hnb30 := NB346_343.out
          have hnc30 := NB343_346.out
          have hcz31_0 : wc.cell? ⟨gb346, 0, none⟩ = some (.int .u8 (bt a0 0)) := (blk_cell BK346.out 0).trans rfl
          have hcz31_1 : wc.cell? ⟨gb346, 1, none⟩ = some (.bool t348) := (blk_cell BK346.out 1).trans rfl
          have hcz31_2 : wc.cell? ⟨gb346, 2, none⟩ = some (.string x347002_16) := (blk_cell BK346.out 2).trans rfl
          have hfz31_0 := blk_frozen BK346.out 0
          have hfz31_1 := blk_frozen BK346.out 1
          have hfz31_2 := blk_frozen BK346.out 2
          go_wp2_with (first | ((with_reducible refine gate_callee (f := 95) rfl ?_); refine goesL_ (some 44) rfl rfl Try.func95 (by kernel_rfl) rfl #[.agg #[.int .u8 (bt a0 0), .bool t348, .string x347002_16]] rfl (by (try simp only [List.map_toArray, List.map_cons, List.map_nil]); first | done | rfl | (simp only [List.length_drop, List.length_take]; rfl)) ?_; (with_reducible refine (mark_Marker_may.calls (bt a0 0) t348 x347002_16 true _ A26.out).mono ?_); rintro e w32 ⟨rfl, hb⟩; refine ⟨_, rfl, ?_⟩; have n0_ := Aside0.mk (blk_below (g := gb343) (o := .cells #[.int .u8 0, .bool false, .string (⟨#[]⟩ : ByteArray)] 62 (0, 0)) (by (with_reducible repeat (first | refine blk_drewN ?_ _ | refine blk_drew ?_ | refine blk_alloc ?_ _)); exact BK343.out) hb); have n1_ := Aside0.mk (blk_below (g := gb346) (o := .cells #[.int .u8 (bt a0 0), .bool t348, .string x347002_16] 62 (0, 0)) (by (with_reducible repeat (first | refine blk_drewN ?_ _ | refine blk_drew ?_ | refine blk_alloc ?_ _)); exact BK346.out) hb); have n2_ := Aside0.mk (below_step (by repeat (first | (with_reducible first | exact HB.out | apply below_alloc | apply pw_below_drewN | apply below_drew1 | refine below_set ?_ GE343.out | refine below_set ?_ GE346.out) | exact HB.out)) hb); clear BK343; clear BK346; clear HB; have BK343 := n0_; have BK346 := n1_; have HB := n2_; clear n0_ n1_ n2_; (try clear hb); (try clear hb2); (try clear hk); (try clear hi); have hcz33_0 : w32.cell? ⟨gb346, 0, none⟩ = some (.int .u8 (bt a0 0)) := (blk_cell BK346.out 0).trans rfl; have hcz33_1 : w32.cell? ⟨gb346, 1, none⟩ = some (.bool t348) := (blk_cell BK346.out 1).trans rfl; have hcz33_2 : w32.cell? ⟨gb346, 2, none⟩ = some (.string x347002_16) := (blk_cell BK346.out 2).trans rfl; have hfz33_0 := blk_frozen BK346.out 0; have hfz33_1 := blk_frozen BK346.out 1; have hfz33_2 := blk_frozen BK346.out 2) | (go_at_call 96; (with_reducible refine (mark_Marker_line.calls (bt a0 0) t348 x347002_16 a1 t353 _ A28.out).mono ?_); rintro e w34 ⟨rfl, hb⟩; have n0_ := Aside0.mk (blk_below (g := gb343) (o := .cells #[.int .u8 0, .bool false, .string (⟨#[]⟩ : ByteArray)] 62 (0, 0)) (by (with_reducible repeat (first | refine blk_drewN ?_ _ | refine blk_drew ?_ | refine blk_alloc ?_ _)); exact BK343.out) hb); have n1_ := Aside0.mk (blk_below (g := gb346) (o := .cells #[.int .u8 (bt a0 0), .bool t348, .string x347002_16] 62 (0, 0)) (by (with_reducible repeat (first | refine blk_drewN ?_ _ | refine blk_drew ?_ | refine blk_alloc ?_ _)); exact BK346.out) hb); have n2_ := Aside0.mk (below_step (by repeat (first | (with_reducible first | exact HB.out | apply below_alloc | apply pw_below_drewN | apply below_drew1 | refine below_set ?_ GE343.out | refine below_set ?_ GE346.out) | exact HB.out)) hb); clear BK343; clear BK346; clear HB; have BK343 := n0_; have BK346 := n1_; have HB := n2_; clear n0_ n1_ n2_; (try clear hb); (try clear hb2); (try clear hk); (try clear hi); have hcz35_0 : w34.cell? ⟨gb346, 0, none⟩ = some (.int .u8 (bt a0 0)) := (blk_cell BK346.out 0).trans rfl; have hcz35_1 : w34.cell? ⟨gb346, 1, none⟩ = some (.bool t348) := (blk_cell BK346.out 1).trans rfl; have hcz35_2 : w34.cell? ⟨gb346, 2, none⟩ = some (.string x347002_16) := (blk_cell BK346.out 2).trans rfl; have hfz35_0 := blk_frozen BK346.out 0; have hfz35_1 := blk_frozen BK346.out 1; have hfz35_2 := blk_frozen BK346.out 2; have hcz36_0 : w34.cell? ⟨gb343, 0, none⟩ = some (.int .u8 0) := (blk_cell BK343.out 0).trans rfl; have hcz36_1 : w34.cell? ⟨gb343, 1, none⟩ = some (.bool false) := (blk_cell BK343.out 1).trans rfl; have hcz36_2 : w34.cell? ⟨gb343, 2, none⟩ = some (.string (⟨#[]⟩ : ByteArray)) := (blk_cell BK343.out 2).trans rfl; have hfz36_0 := blk_frozen BK343.out 0; have hfz36_1 := blk_frozen BK343.out 1; have hfz36_2 := blk_frozen BK343.out 2))
          refine bodyPost_ret (results_ctt rfl _ _ gb343 62 #[.int .u8 (bt a0 0), .bool t348, .string x347002_16] (0, 0) _ rfl (by (with_reducible repeat (first | refine blk_drewN ?_ _ | refine blk_drew ?_ | refine blk_alloc ?_ _)); refine blk_put (cs := #[.int .u8 (bt a0 0), .bool t348, .string (⟨#[]⟩ : ByteArray)]) ?_ 2 _ rfl; (with_reducible repeat (first | refine blk_drewN ?_ _ | refine blk_drew ?_ | refine blk_alloc ?_ _)); refine blk_put (cs := #[.int .u8 (bt a0 0), .bool false, .string (⟨#[]⟩ : ByteArray)]) ?_ 1 _ rfl; (with_reducible repeat (first | refine blk_drewN ?_ _ | refine blk_drew ?_ | refine blk_alloc ?_ _)); refine blk_put (cs := #[.int .u8 0, .bool false, .string (⟨#[]⟩ : ByteArray)]) ?_ 0 _ rfl; (with_reducible repeat (first | refine blk_drewN ?_ _ | refine blk_drew ?_ | refine blk_alloc ?_ _)); exact BK343.out) Try.underlying62 rfl (by kernel_rfl)) rfl ?_
          exact ⟨by first | rfl | (simp [errW_none, errW_some] <;> rfl) | (simp [*, errW_none, errW_some] <;> rfl), by repeat (first | (with_reducible first | exact HB.out | apply below_alloc | apply pw_below_drewN | apply below_drew1 | refine below_set ?_ GE343.out | refine below_set ?_ GE346.out) | exact HB.out)⟩
         ·rw [if_neg c29] at H
          have c29b0 : (t353.toList == a0.toList) = false := beq_eq_false_iff_ne.mpr c29
          have c29b1 : (t353.toList != a0.toList) = true := bne_iff_ne.mpr c29
          simp only [Option.some.injEq, Prod.mk.injEq] at H
          obtain ⟨rfl, rfl, rfl, rfl, rfl⟩ := H
          have hnb37 := NB346_343.out
          have hnc37 := NB343_346.out
          have hcz38_0 : wc.cell? ⟨gb346, 0, none⟩ = some (.int .u8 (bt a0 0)) := (blk_cell BK346.out 0).trans rfl
          have hcz38_1 : wc.cell? ⟨gb346, 1, none⟩ = some (.bool t348) := (blk_cell BK346.out 1).trans rfl
          have hcz38_2 : wc.cell? ⟨gb346, 2, none⟩ = some (.string x347002_16) := (blk_cell BK346.out 2).trans rfl
          have hfz38_0 := blk_frozen BK346.out 0
          have hfz38_1 := blk_frozen BK346.out 1
          have hfz38_2 := blk_frozen BK346.out 2
          go_wp2_with (first | ((with_reducible refine gate_callee (f := 95) rfl ?_); refine goesL_ (some 44) rfl rfl Try.func95 (by kernel_rfl) rfl #[.agg #[.int .u8 (bt a0 0), .bool t348, .string x347002_16]] rfl (by (try simp only [List.map_toArray, List.map_cons, List.map_nil]); first | done | rfl | (simp only [List.length_drop, List.length_take]; rfl)) ?_; (with_reducible refine (mark_Marker_may.calls (bt a0 0) t348 x347002_16 true _ A26.out).mono ?_); rintro e w39 ⟨rfl, hb⟩; refine ⟨_, rfl, ?_⟩; have n0_ := Aside0.mk (blk_below (g := gb343) (o := .cells #[.int .u8 0, .bool false, .string (⟨#[]⟩ : ByteArray)] 62 (0, 0)) (by (with_reducible repeat (first | refine blk_drewN ?_ _ | refine blk_drew ?_ | refine blk_alloc ?_ _)); exact BK343.out) hb); have n1_ := Aside0.mk (blk_below (g := gb346) (o := .cells #[.int .u8 (bt a0 0), .bool t348, .string x347002_16] 62 (0, 0)) (by (with_reducible repeat (first | refine blk_drewN ?_ _ | refine blk_drew ?_ | refine blk_alloc ?_ _)); exact BK346.out) hb); have n2_ := Aside0.mk (below_step (by repeat (first | (with_reducible first | exact HB.out | apply below_alloc | apply pw_below_drewN | apply below_drew1 | refine below_set ?_ GE343.out | refine below_set ?_ GE346.out) | exact HB.out)) hb); clear BK343; clear BK346; clear HB; have BK343 := n0_; have BK346 := n1_; have HB := n2_; clear n0_ n1_ n2_; (try clear hb); (try clear hb2); (try clear hk); (try clear hi); have hcz40_0 : w39.cell? ⟨gb346, 0, none⟩ = some (.int .u8 (bt a0 0)) := (blk_cell BK346.out 0).trans rfl; have hcz40_1 : w39.cell? ⟨gb346, 1, none⟩ = some (.bool t348) := (blk_cell BK346.out 1).trans rfl; have hcz40_2 : w39.cell? ⟨gb346, 2, none⟩ = some (.string x347002_16) := (blk_cell BK346.out 2).trans rfl; have hfz40_0 := blk_frozen BK346.out 0; have hfz40_1 := blk_frozen BK346.out 1; have hfz40_2 := blk_frozen BK346.out 2) | (go_at_call 96; (with_reducible refine (mark_Marker_line.calls (bt a0 0) t348 x347002_16 a1 t353 _ A28.out).mono ?_); rintro e w41 ⟨rfl, hb⟩; have n0_ := Aside0.mk (blk_below (g := gb343) (o := .cells #[.int .u8 0, .bool false, .string (⟨#[]⟩ : ByteArray)] 62 (0, 0)) (by (with_reducible repeat (first | refine blk_drewN ?_ _ | refine blk_drew ?_ | refine blk_alloc ?_ _)); exact BK343.out) hb); have n1_ := Aside0.mk (blk_below (g := gb346) (o := .cells #[.int .u8 (bt a0 0), .bool t348, .string x347002_16] 62 (0, 0)) (by (with_reducible repeat (first | refine blk_drewN ?_ _ | refine blk_drew ?_ | refine blk_alloc ?_ _)); exact BK346.out) hb); have n2_ := Aside0.mk (below_step (by repeat (first | (with_reducible first | exact HB.out | apply below_alloc | apply pw_below_drewN | apply below_drew1 | refine below_set ?_ GE343.out | refine below_set ?_ GE346.out) | exact HB.out)) hb); clear BK343; clear BK346; clear HB; have BK343 := n0_; have BK346 := n1_; have HB := n2_; clear n0_ n1_ n2_; (try clear hb); (try clear hb2); (try clear hk); (try clear hi); have hcz42_0 : w41.cell? ⟨gb343, 0, none⟩ = some (.int .u8 0) := (blk_cell BK343.out 0).trans rfl; have hcz42_1 : w41.cell? ⟨gb343, 1, none⟩ = some (.bool false) := (blk_cell BK343.out 1).trans rfl; have hcz42_2 : w41.cell? ⟨gb343, 2, none⟩ = some (.string (⟨#[]⟩ : ByteArray)) := (blk_cell BK343.out 2).trans rfl; have hfz42_0 := blk_frozen BK343.out 0; have hfz42_1 := blk_frozen BK343.out 1; have hfz42_2 := blk_frozen BK343.out 2))
          refine bodyPost_ret (results_ctt rfl _ _ gb343 62 #[.int .u8 0, .bool false, .string (⟨#[]⟩ : ByteArray)] (0, 0) _ rfl (by (with_reducible repeat (first | refine blk_drewN ?_ _ | refine blk_drew ?_ | refine blk_alloc ?_ _)); refine blk_put (cs := #[.int .u8 0, .bool false, .string (⟨#[]⟩ : ByteArray)]) ?_ 2 _ rfl; (with_reducible repeat (first | refine blk_drewN ?_ _ | refine blk_drew ?_ | refine blk_alloc ?_ _)); refine blk_put (cs := #[.int .u8 0, .bool false, .string (⟨#[]⟩ : ByteArray)]) ?_ 1 _ rfl; (with_reducible repeat (first | refine blk_drewN ?_ _ | refine blk_drew ?_ | refine blk_alloc ?_ _)); refine blk_put (cs := #[.int .u8 0, .bool false, .string (⟨#[]⟩ : ByteArray)]) ?_ 0 _ rfl; (with_reducible repeat (first | refine blk_drewN ?_ _ | refine blk_drew ?_ | refine blk_alloc ?_ _)); exact BK343.out) Try.underlying62 rfl (by kernel_rfl)) rfl ?_
          exact ⟨by first | rfl | (simp [errW_none, errW_some] <;> rfl) | (simp [*, errW_none, errW_some] <;> rfl), by repeat (first | (with_reducible first | exact HB.out | apply below_alloc | apply pw_below_drewN | apply below_drew1 | refine below_set ?_ GE343.out | refine below_set ?_ GE346.out) | exact HB.out)⟩
        ·replace c27 := Bool.eq_false_iff.mpr c27
         subst c27
         have H1 : (some (0, false, (⟨#[]⟩ : ByteArray), false, 6)) = some (r1, r2, r3, r4, r5) := by rw [if_neg (show ¬ (false = true) by decide)] at H; exact H
         clear H
         have H := H1
         clear H1
         simp only [Option.some.injEq, Prod.mk.injEq] at H
         obtain ⟨rfl, rfl, rfl, rfl, rfl⟩ := H
         have hnb43 := NB346_343.out
         have hnc43 := NB343_346.out
         have hcz44_0 : wc.cell? ⟨gb346, 0, none⟩ = some (.int .u8 (bt a0 0)) := (blk_cell BK346.out 0).trans rfl
         have hcz44_1 : wc.cell? ⟨gb346, 1, none⟩ = some (.bool t348) := (blk_cell BK346.out 1).trans rfl
         have hcz44_2 : wc.cell? ⟨gb346, 2, none⟩ = some (.string x347002_16) := (blk_cell BK346.out 2).trans rfl
         have hfz44_0 := blk_frozen BK346.out 0
         have hfz44_1 := blk_frozen BK346.out 1
         have hfz44_2 := blk_frozen BK346.out 2
         go_wp2_with (first | ((with_reducible refine gate_callee (f := 95) rfl ?_); refine goesL_ (some 44) rfl rfl Try.func95 (by kernel_rfl) rfl #[.agg #[.int .u8 (bt a0 0), .bool t348, .string x347002_16]] rfl (by (try simp only [List.map_toArray, List.map_cons, List.map_nil]); first | done | rfl | (simp only [List.length_drop, List.length_take]; rfl)) ?_; (with_reducible refine (mark_Marker_may.calls (bt a0 0) t348 x347002_16 false _ A26.out).mono ?_); rintro e w45 ⟨rfl, hb⟩; refine ⟨_, rfl, ?_⟩; have n0_ := Aside0.mk (blk_below (g := gb343) (o := .cells #[.int .u8 0, .bool false, .string (⟨#[]⟩ : ByteArray)] 62 (0, 0)) (by (with_reducible repeat (first | refine blk_drewN ?_ _ | refine blk_drew ?_ | refine blk_alloc ?_ _)); exact BK343.out) hb); have n1_ := Aside0.mk (blk_below (g := gb346) (o := .cells #[.int .u8 (bt a0 0), .bool t348, .string x347002_16] 62 (0, 0)) (by (with_reducible repeat (first | refine blk_drewN ?_ _ | refine blk_drew ?_ | refine blk_alloc ?_ _)); exact BK346.out) hb); have n2_ := Aside0.mk (below_step (by repeat (first | (with_reducible first | exact HB.out | apply below_alloc | apply pw_below_drewN | apply below_drew1 | refine below_set ?_ GE343.out | refine below_set ?_ GE346.out) | exact HB.out)) hb); clear BK343; clear BK346; clear HB; have BK343 := n0_; have BK346 := n1_; have HB := n2_; clear n0_ n1_ n2_; (try clear hb); (try clear hb2); (try clear hk); (try clear hi); have hcz46_0 : w45.cell? ⟨gb343, 0, none⟩ = some (.int .u8 0) := (blk_cell BK343.out 0).trans rfl; have hcz46_1 : w45.cell? ⟨gb343, 1, none⟩ = some (.bool false) := (blk_cell BK343.out 1).trans rfl; have hcz46_2 : w45.cell? ⟨gb343, 2, none⟩ = some (.string (⟨#[]⟩ : ByteArray)) := (blk_cell BK343.out 2).trans rfl; have hfz46_0 := blk_frozen BK343.out 0; have hfz46_1 := blk_frozen BK343.out 1; have hfz46_2 := blk_frozen BK343.out 2))
         refine bodyPost_ret (results_ctt rfl _ _ gb343 62 #[.int .u8 0, .bool false, .string (⟨#[]⟩ : ByteArray)] (0, 0) _ rfl (by (with_reducible repeat (first | refine blk_drewN ?_ _ | refine blk_drew ?_ | refine blk_alloc ?_ _)); refine blk_put (cs := #[.int .u8 0, .bool false, .string (⟨#[]⟩ : ByteArray)]) ?_ 2 _ rfl; (with_reducible repeat (first | refine blk_drewN ?_ _ | refine blk_drew ?_ | refine blk_alloc ?_ _)); refine blk_put (cs := #[.int .u8 0, .bool false, .string (⟨#[]⟩ : ByteArray)]) ?_ 1 _ rfl; (with_reducible repeat (first | refine blk_drewN ?_ _ | refine blk_drew ?_ | refine blk_alloc ?_ _)); refine blk_put (cs := #[.int .u8 0, .bool false, .string (⟨#[]⟩ : ByteArray)]) ?_ 0 _ rfl; (with_reducible repeat (first | refine blk_drewN ?_ _ | refine blk_drew ?_ | refine blk_alloc ?_ _)); exact BK343.out) Try.underlying62 rfl (by kernel_rfl)) rfl ?_
         exact ⟨by first | rfl | (simp [errW_none, errW_some] <;> rfl) | (simp [*, errW_none, errW_some] <;> rfl), by repeat (first | (with_reducible first | exact HB.out | apply below_alloc | apply pw_below_drewN | apply below_drew1 | refine below_set ?_ GE343.out | refine below_set ?_ GE346.out) | exact HB.out)⟩
     ·rw [if_neg c13] at H
      exact absurd H (by simp)
    ·rw [if_neg c12] at H
     exact absurd H (by simp)
   ·rw [if_neg c10] at H
    exact absurd H (by simp)
 ·replace c4 := Bool.eq_false_iff.mpr c4
  subst c4
  have H1 : (some (0, false, (⟨#[]⟩ : ByteArray), false, 4)) = some (r1, r2, r3, r4, r5) := by rw [if_neg (show ¬ (false = true) by decide)] at H; exact H
  clear H
  have H := H1
  clear H1
  simp only [Option.some.injEq, Prod.mk.injEq] at H
  obtain ⟨rfl, rfl, rfl, rfl, rfl⟩ := H
  go_enter Try.func52, Try.ntmps52
  go_wp2_with (first | ((with_reducible refine gate_dst (N := 4) rfl ?_); refine box_event ?hg (N := 4) ?hd (cs := #[.int .u8 0, .bool false, .string (⟨#[]⟩ : ByteArray)]) (t := 62) ?hr ?_; (case hd => rfl); (case hg => rfl); (case hr => first | (go_simp; done) | (go_simp; rfl)); intro gb343 hg w47 hbox hb; have n0_ := Aside0.mk (below_step (by repeat (first | (with_reducible first | exact HB.out | apply below_alloc | apply pw_below_drewN | apply below_drew1) | exact HB.out)) hb); have n1_ := Aside0.mk (hbox); have n2_ := Aside0.mk ((by rw [hg]; exact (below_size (by repeat (first | (with_reducible first | exact HB.out | apply below_alloc | apply pw_below_drewN | apply below_drew1) | exact HB.out))) : w.heap.size ≤ gb343)); have n3_ := Aside0.mk ((by rw [hg]; exact (below_size (by repeat (first | (with_reducible first | exact HB.out | apply below_alloc | apply pw_below_drewN | apply below_drew1) | exact HB.out))) : w.heap.size ≤ gb343)); clear HB; have HB := n0_; have BK343 := n1_; have GW343 := n2_; have GE343 := n3_; clear n0_ n1_ n2_ n3_; clear hb hbox hg) | ((with_reducible refine gate_callee (f := 86) rfl ?_); refine goesL_ (some 13) rfl rfl Try.func86 (by kernel_rfl) rfl #[.int .i64 a1] rfl (by (try simp only [List.map_toArray, List.map_cons, List.map_nil]); first | done | rfl | (simp only [List.length_drop, List.length_take]; rfl)) ?_; (with_reducible refine (mark_wide.calls a1 false _ A3.out).mono ?_); rintro e w' ⟨rfl, ⟨nd, rfl⟩⟩; refine ⟨_, rfl, ?_⟩; (try (rw [drewN_self w47]; generalize hq_ : World.drewN w47 _ = w47; have n0_ : Aside0 (w47.heap[gb343]? = some (.cells #[.int .u8 0, .bool false, .string (⟨#[]⟩ : ByteArray)] 62 (0, 0))) := ⟨by rw [← hq_]; exact (by (with_reducible repeat (first | refine blk_drewN ?_ _ | refine blk_drew ?_ | refine blk_alloc ?_ _)); exact BK343.out)⟩; have n1_ : Aside0 (Below w.heap.size w w47) := ⟨by rw [← hq_]; exact (by repeat (first | (with_reducible first | exact HB.out | apply below_alloc | apply pw_below_drewN | apply below_drew1 | refine below_set ?_ GE343.out) | exact HB.out))⟩; clear BK343 HB hq_; have BK343 := n0_; have HB := n1_; clear n0_ n1_)); have hcz48_0 : w47.cell? ⟨gb343, 0, none⟩ = some (.int .u8 0) := (blk_cell BK343.out 0).trans rfl; have hcz48_1 : w47.cell? ⟨gb343, 1, none⟩ = some (.bool false) := (blk_cell BK343.out 1).trans rfl; have hcz48_2 : w47.cell? ⟨gb343, 2, none⟩ = some (.string (⟨#[]⟩ : ByteArray)) := (blk_cell BK343.out 2).trans rfl; have hfz48_0 := blk_frozen BK343.out 0; have hfz48_1 := blk_frozen BK343.out 1; have hfz48_2 := blk_frozen BK343.out 2))
  refine bodyPost_ret (results_ctt rfl _ _ gb343 62 #[.int .u8 0, .bool false, .string (⟨#[]⟩ : ByteArray)] (0, 0) _ rfl (by (with_reducible repeat (first | refine blk_drewN ?_ _ | refine blk_drew ?_ | refine blk_alloc ?_ _)); refine blk_put (cs := #[.int .u8 0, .bool false, .string (⟨#[]⟩ : ByteArray)]) ?_ 2 _ rfl; (with_reducible repeat (first | refine blk_drewN ?_ _ | refine blk_drew ?_ | refine blk_alloc ?_ _)); refine blk_put (cs := #[.int .u8 0, .bool false, .string (⟨#[]⟩ : ByteArray)]) ?_ 1 _ rfl; (with_reducible repeat (first | refine blk_drewN ?_ _ | refine blk_drew ?_ | refine blk_alloc ?_ _)); refine blk_put (cs := #[.int .u8 0, .bool false, .string (⟨#[]⟩ : ByteArray)]) ?_ 0 _ rfl; (with_reducible repeat (first | refine blk_drewN ?_ _ | refine blk_drew ?_ | refine blk_alloc ?_ _)); exact BK343.out) Try.underlying62 rfl (by kernel_rfl)) rfl ?_
  exact ⟨by first | rfl | (simp [errW_none, errW_some] <;> rfl) | (simp [*, errW_none, errW_some] <;> rfl), by repeat (first | (with_reducible first | exact HB.out | apply below_alloc | apply pw_below_drewN | apply below_drew1 | refine below_set ?_ GE343.out) | exact HB.out)⟩
end Go.Proofs.Ytfiamddinkokbaa.F
