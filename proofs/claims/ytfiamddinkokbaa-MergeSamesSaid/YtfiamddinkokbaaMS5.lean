/- Texts joined into one file (wip/tools/pack.py): Fn101, Texts0, Texts, Fn58, Fn100, Fn67, Told12, Fn69, Fn106, Fn107, Fn59, Fn57, Fn68 -/
import Derived.Test.YtfiamddinkokbaaMS1
import Derived.Test.YtfiamddinkokbaaMS3
import Derived.Test.YtfiamddinkokbaaMS4
import Derived.Test.YtfiamddinkokbaaMS2
import Derived.Deep.DrawnRows
import Derived.BigQuiet
section
set_option linter.unusedVariables false
set_option linter.unusedSimpArgs false
namespace Go.Proofs.Ytfiamddinkokbaa.F
open Go.RowKit Go.Proofs.YtfiamddinkokbaaW.PrintWords Go.Proofs.YtfiamddinkokbaaW.PrintLast Go.Proofs.YtfiamddinkokbaaW.PrintMore
attribute [local go_sem] max2_int min2_int max_two min_two max_three min_three max_four min_four
set_option linter.unusedVariables false
set_option linter.unusedSimpArgs false
def merge_Options_wrong.f (k : Nat) (a0_0 : ByteArray) (a0_1 : ByteArray) (a0_2 : ByteArray) (a0_3 : Int) (a0_4 : Int) (a0_5 : Int) (a1 : Int) : Option (Int) := if a1 > 1073741824 then (some 2) else ((doc_Labels_Plain.f a0_0 a0_1 a0_2).bind fun t513 => (if t513 = true then (if a0_4 < 7 then (some 4) else (if a0_4 > 64 then (some 4) else ((build_Doc.f k ([] : List ByteArray) ([] : List ByteArray) ([] : List ByteArray) ([] : List (S91)) a0_3 a0_0 a0_1 a0_2 a0_5).bind fun bt514 => (some bt514.2)))) else (some 3)))
theorem merge_Options_wrong.mono : ∀ a0 a1 a2 a3 a4 a5 a6 k, LeO (merge_Options_wrong.f k a0 a1 a2 a3 a4 a5 a6) (merge_Options_wrong.f (k + 1) a0 a1 a2 a3 a4 a5 a6) := by
 intro a0 a1 a2 a3 a4 a5 a6 k
 unfold merge_Options_wrong.f
 repeat' first
   | (with_reducible exact build_Doc.mono _ _ _ _ _ _ _ _ _ _)
   | (with_reducible exact LeO.refl _)
   | (with_reducible exact LeO.none _)
   | (with_reducible refine LeO.ite ?_ ?_)
   | (with_reducible refine LeO.bind ?_ (fun _ => ?_))
   | exact build_Doc.mono _ _ _ _ _ _ _ _ _ _
   | exact LeO.none _
   | refine LeO.ite ?_ ?_
   | refine LeO.bind ?_ (fun _ => ?_)
set_option maxHeartbeats 8000000 in
set_option maxRecDepth 100000 in
theorem merge_Options_wrong.calls (k : Nat) (a0_0 : ByteArray) (a0_1 : ByteArray) (a0_2 : ByteArray) (a0_3 : Int) (a0_4 : Int) (a0_5 : Int) (a1 : Int) (r : Int) (w : World) (h : merge_Options_wrong.f k a0_0 a0_1 a0_2 a0_3 a0_4 a0_5 a1 = some r) :
  Calls Try.prog 101 #[.agg #[.string a0_0, .string a0_1, .string a0_2, .int .i64 a0_3, .int .i64 a0_4, .int .i64 a0_5], .int .i64 a1] w fun e w' => e = .returned (.int .i64 r) ∧ Below w.heap.size w w' := by
 have hu86 := Try.underlying86
 have hu84 := Try.underlying84
 have hu144 := Try.underlying144
 have HB := Aside0.mk (Below.refl w.heap.size w)
 have H : (if a1 > 1073741824 then (some 2) else ((doc_Labels_Plain.f a0_0 a0_1 a0_2).bind fun t513 => (if t513 = true then (if a0_4 < 7 then (some 4) else (if a0_4 > 64 then (some 4) else ((build_Doc.f k ([] : List ByteArray) ([] : List ByteArray) ([] : List ByteArray) ([] : List (S91)) a0_3 a0_0 a0_1 a0_2 a0_5).bind fun bt514 => (some bt514.2)))) else (some 3)))) = some r := h
 clear h
 by_cases c3 : a1 > 1073741824
 ·rw [if_pos c3] at H
  have c3b0 : decide (1073741824 < a1) = true := decide_eq_true c3
  clear c3
  obtain rfl := Option.some.inj H
  go_enter Try.func101, Try.ntmps101
  go_wp2_with (first | ((with_reducible refine gate_dst (N := 2) rfl ?_); refine box_event ?hg (N := 2) ?hd (cs := #[.string a0_0, .string a0_1, .string a0_2, .int .i64 a0_3, .int .i64 a0_4, .int .i64 a0_5]) (t := 86) ?hr ?_; (case hd => rfl); (case hg => rfl); (case hr => first | (go_simp; done) | (go_simp; rfl)); intro gb512 hg w4 hbox hb; have n0_ := Aside0.mk (below_step (by repeat (first | (with_reducible first | exact HB.out | apply below_alloc | apply pw_below_drewN | apply below_drew1) | exact HB.out)) hb); have n1_ := Aside0.mk (hbox); have n2_ := Aside0.mk ((by rw [hg]; exact (below_size (by repeat (first | (with_reducible first | exact HB.out | apply below_alloc | apply pw_below_drewN | apply below_drew1) | exact HB.out))) : w.heap.size ≤ gb512)); have n3_ := Aside0.mk ((by rw [hg]; exact (below_size (by repeat (first | (with_reducible first | exact HB.out | apply below_alloc | apply pw_below_drewN | apply below_drew1) | exact HB.out))) : w.heap.size ≤ gb512)); clear HB; have HB := n0_; have BK512 := n1_; have GW512 := n2_; have GE512 := n3_; clear n0_ n1_ n2_ n3_; clear hb hbox hg))
  go_ret
  exact ⟨by first | rfl | (simp [errW_none, errW_some] <;> rfl) | (simp [*, errW_none, errW_some] <;> rfl), by repeat (first | (with_reducible first | exact HB.out | apply below_alloc | apply pw_below_drewN | apply below_drew1 | refine below_set ?_ GE512.out) | exact HB.out)⟩
 ·rw [if_neg c3] at H
  have c3b0 : decide (1073741824 < a1) = false := decide_eq_false c3
  clear c3
  replace H := Option.bind_eq_some_iff.mp H
  obtain ⟨t513, A50, H⟩ := H
  replace H : (if t513 = true then (if a0_4 < 7 then (some 4) else (if a0_4 > 64 then (some 4) else ((build_Doc.f k ([] : List ByteArray) ([] : List ByteArray) ([] : List ByteArray) ([] : List (S91)) a0_3 a0_0 a0_1 a0_2 a0_5).bind fun bt514 => (some bt514.2)))) else (some 3)) = some r := H
  have A5 := Aside0.mk A50
  clear A50
  by_cases c6 : t513 = true
  ·subst c6
   have H1 : (if a0_4 < 7 then (some 4) else (if a0_4 > 64 then (some 4) else ((build_Doc.f k ([] : List ByteArray) ([] : List ByteArray) ([] : List ByteArray) ([] : List (S91)) a0_3 a0_0 a0_1 a0_2 a0_5).bind fun bt514 => (some bt514.2)))) = some r := by rw [if_pos rfl] at H; exact H
   clear H
   have H := H1
   clear H1
   by_cases c7 : a0_4 < 7
   ·rw [if_pos c7] at H
    have c7b0 : decide (a0_4 < 7) = true := decide_eq_true c7
    clear c7
    obtain rfl := Option.some.inj H
    go_enter Try.func101, Try.ntmps101
    go_wp2_with (first | ((with_reducible refine gate_dst (N := 2) rfl ?_); refine box_event ?hg (N := 2) ?hd (cs := #[.string a0_0, .string a0_1, .string a0_2, .int .i64 a0_3, .int .i64 a0_4, .int .i64 a0_5]) (t := 86) ?hr ?_; (case hd => rfl); (case hg => rfl); (case hr => first | (go_simp; done) | (go_simp; rfl)); intro gb512 hg w8 hbox hb; have n0_ := Aside0.mk (below_step (by repeat (first | (with_reducible first | exact HB.out | apply below_alloc | apply pw_below_drewN | apply below_drew1) | exact HB.out)) hb); have n1_ := Aside0.mk (hbox); have n2_ := Aside0.mk ((by rw [hg]; exact (below_size (by repeat (first | (with_reducible first | exact HB.out | apply below_alloc | apply pw_below_drewN | apply below_drew1) | exact HB.out))) : w.heap.size ≤ gb512)); have n3_ := Aside0.mk ((by rw [hg]; exact (below_size (by repeat (first | (with_reducible first | exact HB.out | apply below_alloc | apply pw_below_drewN | apply below_drew1) | exact HB.out))) : w.heap.size ≤ gb512)); clear HB; have HB := n0_; have BK512 := n1_; have GW512 := n2_; have GE512 := n3_; clear n0_ n1_ n2_ n3_; clear hb hbox hg; have hcz9_0 : w8.cell? ⟨gb512, 0, none⟩ = some (.string a0_0) := (blk_cell BK512.out 0).trans rfl; have hcz9_1 : w8.cell? ⟨gb512, 1, none⟩ = some (.string a0_1) := (blk_cell BK512.out 1).trans rfl; have hcz9_2 : w8.cell? ⟨gb512, 2, none⟩ = some (.string a0_2) := (blk_cell BK512.out 2).trans rfl; have hcz9_3 : w8.cell? ⟨gb512, 3, none⟩ = some (.int .i64 a0_3) := (blk_cell BK512.out 3).trans rfl; have hcz9_4 : w8.cell? ⟨gb512, 4, none⟩ = some (.int .i64 a0_4) := (blk_cell BK512.out 4).trans rfl; have hcz9_5 : w8.cell? ⟨gb512, 5, none⟩ = some (.int .i64 a0_5) := (blk_cell BK512.out 5).trans rfl; have hfz9_0 := blk_frozen BK512.out 0; have hfz9_1 := blk_frozen BK512.out 1; have hfz9_2 := blk_frozen BK512.out 2; have hfz9_3 := blk_frozen BK512.out 3; have hfz9_4 := blk_frozen BK512.out 4; have hfz9_5 := blk_frozen BK512.out 5) | ((with_reducible refine gate_callee (f := 114) rfl ?_); refine goesL_ (some 13) rfl rfl Try.func114 (by kernel_rfl) rfl #[.agg #[.string a0_0, .string a0_1, .string a0_2]] rfl (by (try simp only [List.map_toArray, List.map_cons, List.map_nil]); first | done | rfl | (simp only [List.length_drop, List.length_take]; rfl)) ?_; (with_reducible refine (doc_Labels_Plain.calls a0_0 a0_1 a0_2 true _ A5.out).mono ?_); rintro e w10 ⟨rfl, hb⟩; refine ⟨_, rfl, ?_⟩; have n0_ := Aside0.mk (blk_below (g := gb512) (o := .cells #[.string a0_0, .string a0_1, .string a0_2, .int .i64 a0_3, .int .i64 a0_4, .int .i64 a0_5] 86 (0, 0)) (by (with_reducible repeat (first | refine blk_drewN ?_ _ | refine blk_drew ?_ | refine blk_alloc ?_ _)); exact BK512.out) hb); have n1_ := Aside0.mk (below_step (by repeat (first | (with_reducible first | exact HB.out | apply below_alloc | apply pw_below_drewN | apply below_drew1 | refine below_set ?_ GE512.out) | exact HB.out)) hb); clear BK512; clear HB; have BK512 := n0_; have HB := n1_; clear n0_ n1_; (try clear hb); (try clear hb2); (try clear hk); (try clear hi); have hcz11_0 : w10.cell? ⟨gb512, 0, none⟩ = some (.string a0_0) := (blk_cell BK512.out 0).trans rfl; have hcz11_1 : w10.cell? ⟨gb512, 1, none⟩ = some (.string a0_1) := (blk_cell BK512.out 1).trans rfl; have hcz11_2 : w10.cell? ⟨gb512, 2, none⟩ = some (.string a0_2) := (blk_cell BK512.out 2).trans rfl; have hcz11_3 : w10.cell? ⟨gb512, 3, none⟩ = some (.int .i64 a0_3) := (blk_cell BK512.out 3).trans rfl; have hcz11_4 : w10.cell? ⟨gb512, 4, none⟩ = some (.int .i64 a0_4) := (blk_cell BK512.out 4).trans rfl; have hcz11_5 : w10.cell? ⟨gb512, 5, none⟩ = some (.int .i64 a0_5) := (blk_cell BK512.out 5).trans rfl; have hfz11_0 := blk_frozen BK512.out 0; have hfz11_1 := blk_frozen BK512.out 1; have hfz11_2 := blk_frozen BK512.out 2; have hfz11_3 := blk_frozen BK512.out 3; have hfz11_4 := blk_frozen BK512.out 4; have hfz11_5 := blk_frozen BK512.out 5))
    go_ret
    exact ⟨by first | rfl | (simp [errW_none, errW_some] <;> rfl) | (simp [*, errW_none, errW_some] <;> rfl), by repeat (first | (with_reducible first | exact HB.out | apply below_alloc | apply pw_below_drewN | apply below_drew1 | refine below_set ?_ GE512.out) | exact HB.out)⟩
   ·rw [if_neg c7] at H
    have c7b0 : decide (a0_4 < 7) = false := decide_eq_false c7
    clear c7
    by_cases c12 : a0_4 > 64
    ·rw [if_pos c12] at H
     have c12b0 : decide (64 < a0_4) = true := decide_eq_true c12
     clear c12
     obtain rfl := Option.some.inj H
     go_enter Try.func101, Try.ntmps101
     go_wp2_with (first | ((with_reducible refine gate_dst (N := 2) rfl ?_); refine box_event ?hg (N := 2) ?hd (cs := #[.string a0_0, .string a0_1, .string a0_2, .int .i64 a0_3, .int .i64 a0_4, .int .i64 a0_5]) (t := 86) ?hr ?_; (case hd => rfl); (case hg => rfl); (case hr => first | (go_simp; done) | (go_simp; rfl)); intro gb512 hg w13 hbox hb; have n0_ := Aside0.mk (below_step (by repeat (first | (with_reducible first | exact HB.out | apply below_alloc | apply pw_below_drewN | apply below_drew1) | exact HB.out)) hb); have n1_ := Aside0.mk (hbox); have n2_ := Aside0.mk ((by rw [hg]; exact (below_size (by repeat (first | (with_reducible first | exact HB.out | apply below_alloc | apply pw_below_drewN | apply below_drew1) | exact HB.out))) : w.heap.size ≤ gb512)); have n3_ := Aside0.mk ((by rw [hg]; exact (below_size (by repeat (first | (with_reducible first | exact HB.out | apply below_alloc | apply pw_below_drewN | apply below_drew1) | exact HB.out))) : w.heap.size ≤ gb512)); clear HB; have HB := n0_; have BK512 := n1_; have GW512 := n2_; have GE512 := n3_; clear n0_ n1_ n2_ n3_; clear hb hbox hg; have hcz14_0 : w13.cell? ⟨gb512, 0, none⟩ = some (.string a0_0) := (blk_cell BK512.out 0).trans rfl; have hcz14_1 : w13.cell? ⟨gb512, 1, none⟩ = some (.string a0_1) := (blk_cell BK512.out 1).trans rfl; have hcz14_2 : w13.cell? ⟨gb512, 2, none⟩ = some (.string a0_2) := (blk_cell BK512.out 2).trans rfl; have hcz14_3 : w13.cell? ⟨gb512, 3, none⟩ = some (.int .i64 a0_3) := (blk_cell BK512.out 3).trans rfl; have hcz14_4 : w13.cell? ⟨gb512, 4, none⟩ = some (.int .i64 a0_4) := (blk_cell BK512.out 4).trans rfl; have hcz14_5 : w13.cell? ⟨gb512, 5, none⟩ = some (.int .i64 a0_5) := (blk_cell BK512.out 5).trans rfl; have hfz14_0 := blk_frozen BK512.out 0; have hfz14_1 := blk_frozen BK512.out 1; have hfz14_2 := blk_frozen BK512.out 2; have hfz14_3 := blk_frozen BK512.out 3; have hfz14_4 := blk_frozen BK512.out 4; have hfz14_5 := blk_frozen BK512.out 5) | ((with_reducible refine gate_callee (f := 114) rfl ?_); refine goesL_ (some 13) rfl rfl Try.func114 (by kernel_rfl) rfl #[.agg #[.string a0_0, .string a0_1, .string a0_2]] rfl (by (try simp only [List.map_toArray, List.map_cons, List.map_nil]); first | done | rfl | (simp only [List.length_drop, List.length_take]; rfl)) ?_; (with_reducible refine (doc_Labels_Plain.calls a0_0 a0_1 a0_2 true _ A5.out).mono ?_); rintro e w15 ⟨rfl, hb⟩; refine ⟨_, rfl, ?_⟩; have n0_ := Aside0.mk (blk_below (g := gb512) (o := .cells #[.string a0_0, .string a0_1, .string a0_2, .int .i64 a0_3, .int .i64 a0_4, .int .i64 a0_5] 86 (0, 0)) (by (with_reducible repeat (first | refine blk_drewN ?_ _ | refine blk_drew ?_ | refine blk_alloc ?_ _)); exact BK512.out) hb); have n1_ := Aside0.mk (below_step (by repeat (first | (with_reducible first | exact HB.out | apply below_alloc | apply pw_below_drewN | apply below_drew1 | refine below_set ?_ GE512.out) | exact HB.out)) hb); clear BK512; clear HB; have BK512 := n0_; have HB := n1_; clear n0_ n1_; (try clear hb); (try clear hb2); (try clear hk); (try clear hi); have hcz16_0 : w15.cell? ⟨gb512, 0, none⟩ = some (.string a0_0) := (blk_cell BK512.out 0).trans rfl; have hcz16_1 : w15.cell? ⟨gb512, 1, none⟩ = some (.string a0_1) := (blk_cell BK512.out 1).trans rfl; have hcz16_2 : w15.cell? ⟨gb512, 2, none⟩ = some (.string a0_2) := (blk_cell BK512.out 2).trans rfl; have hcz16_3 : w15.cell? ⟨gb512, 3, none⟩ = some (.int .i64 a0_3) := (blk_cell BK512.out 3).trans rfl; have hcz16_4 : w15.cell? ⟨gb512, 4, none⟩ = some (.int .i64 a0_4) := (blk_cell BK512.out 4).trans rfl; have hcz16_5 : w15.cell? ⟨gb512, 5, none⟩ = some (.int .i64 a0_5) := (blk_cell BK512.out 5).trans rfl; have hfz16_0 := blk_frozen BK512.out 0; have hfz16_1 := blk_frozen BK512.out 1; have hfz16_2 := blk_frozen BK512.out 2; have hfz16_3 := blk_frozen BK512.out 3; have hfz16_4 := blk_frozen BK512.out 4; have hfz16_5 := blk_frozen BK512.out 5))
     go_ret
     exact ⟨by first | rfl | (simp [errW_none, errW_some] <;> rfl) | (simp [*, errW_none, errW_some] <;> rfl), by repeat (first | (with_reducible first | exact HB.out | apply below_alloc | apply pw_below_drewN | apply below_drew1 | refine below_set ?_ GE512.out) | exact HB.out)⟩
    ·rw [if_neg c12] at H
     have c12b0 : decide (64 < a0_4) = false := decide_eq_false c12
     clear c12
     replace H := Option.bind_eq_some_iff.mp H
     obtain ⟨⟨t514, t517⟩, A170, H⟩ := H
     replace H : (some t517) = some r := H
     have A17 := Aside0.mk A170
     clear A170
     obtain rfl := Option.some.inj H
     go_enter Try.func101, Try.ntmps101
     go_wp2_with (first | ((with_reducible refine gate_dst (N := 2) rfl ?_); refine box_event ?hg (N := 2) ?hd (cs := #[.string a0_0, .string a0_1, .string a0_2, .int .i64 a0_3, .int .i64 a0_4, .int .i64 a0_5]) (t := 86) ?hr ?_; (case hd => rfl); (case hg => rfl); (case hr => first | (go_simp; done) | (go_simp; rfl)); intro gb512 hg w18 hbox hb; have n0_ := Aside0.mk (below_step (by repeat (first | (with_reducible first | exact HB.out | apply below_alloc | apply pw_below_drewN | apply below_drew1) | exact HB.out)) hb); have n1_ := Aside0.mk (hbox); have n2_ := Aside0.mk ((by rw [hg]; exact (below_size (by repeat (first | (with_reducible first | exact HB.out | apply below_alloc | apply pw_below_drewN | apply below_drew1) | exact HB.out))) : w.heap.size ≤ gb512)); have n3_ := Aside0.mk ((by rw [hg]; exact (below_size (by repeat (first | (with_reducible first | exact HB.out | apply below_alloc | apply pw_below_drewN | apply below_drew1) | exact HB.out))) : w.heap.size ≤ gb512)); clear HB; have HB := n0_; have BK512 := n1_; have GW512 := n2_; have GE512 := n3_; clear n0_ n1_ n2_ n3_; clear hb hbox hg; have hcz19_0 : w18.cell? ⟨gb512, 0, none⟩ = some (.string a0_0) := (blk_cell BK512.out 0).trans rfl; have hcz19_1 : w18.cell? ⟨gb512, 1, none⟩ = some (.string a0_1) := (blk_cell BK512.out 1).trans rfl; have hcz19_2 : w18.cell? ⟨gb512, 2, none⟩ = some (.string a0_2) := (blk_cell BK512.out 2).trans rfl; have hcz19_3 : w18.cell? ⟨gb512, 3, none⟩ = some (.int .i64 a0_3) := (blk_cell BK512.out 3).trans rfl; have hcz19_4 : w18.cell? ⟨gb512, 4, none⟩ = some (.int .i64 a0_4) := (blk_cell BK512.out 4).trans rfl; have hcz19_5 : w18.cell? ⟨gb512, 5, none⟩ = some (.int .i64 a0_5) := (blk_cell BK512.out 5).trans rfl; have hfz19_0 := blk_frozen BK512.out 0; have hfz19_1 := blk_frozen BK512.out 1; have hfz19_2 := blk_frozen BK512.out 2; have hfz19_3 := blk_frozen BK512.out 3; have hfz19_4 := blk_frozen BK512.out 4; have hfz19_5 := blk_frozen BK512.out 5) | ((with_reducible refine gate_callee (f := 114) rfl ?_); refine goesL_ (some 13) rfl rfl Try.func114 (by kernel_rfl) rfl #[.agg #[.string a0_0, .string a0_1, .string a0_2]] rfl (by (try simp only [List.map_toArray, List.map_cons, List.map_nil]); first | done | rfl | (simp only [List.length_drop, List.length_take]; rfl)) ?_; (with_reducible refine (doc_Labels_Plain.calls a0_0 a0_1 a0_2 true _ A5.out).mono ?_); rintro e w20 ⟨rfl, hb⟩; refine ⟨_, rfl, ?_⟩; have n0_ := Aside0.mk (blk_below (g := gb512) (o := .cells #[.string a0_0, .string a0_1, .string a0_2, .int .i64 a0_3, .int .i64 a0_4, .int .i64 a0_5] 86 (0, 0)) (by (with_reducible repeat (first | refine blk_drewN ?_ _ | refine blk_drew ?_ | refine blk_alloc ?_ _)); exact BK512.out) hb); have n1_ := Aside0.mk (below_step (by repeat (first | (with_reducible first | exact HB.out | apply below_alloc | apply pw_below_drewN | apply below_drew1 | refine below_set ?_ GE512.out) | exact HB.out)) hb); clear BK512; clear HB; have BK512 := n0_; have HB := n1_; clear n0_ n1_; (try clear hb); (try clear hb2); (try clear hk); (try clear hi); have hcz21_0 : w20.cell? ⟨gb512, 0, none⟩ = some (.string a0_0) := (blk_cell BK512.out 0).trans rfl; have hcz21_1 : w20.cell? ⟨gb512, 1, none⟩ = some (.string a0_1) := (blk_cell BK512.out 1).trans rfl; have hcz21_2 : w20.cell? ⟨gb512, 2, none⟩ = some (.string a0_2) := (blk_cell BK512.out 2).trans rfl; have hcz21_3 : w20.cell? ⟨gb512, 3, none⟩ = some (.int .i64 a0_3) := (blk_cell BK512.out 3).trans rfl; have hcz21_4 : w20.cell? ⟨gb512, 4, none⟩ = some (.int .i64 a0_4) := (blk_cell BK512.out 4).trans rfl; have hcz21_5 : w20.cell? ⟨gb512, 5, none⟩ = some (.int .i64 a0_5) := (blk_cell BK512.out 5).trans rfl; have hfz21_0 := blk_frozen BK512.out 0; have hfz21_1 := blk_frozen BK512.out 1; have hfz21_2 := blk_frozen BK512.out 2; have hfz21_3 := blk_frozen BK512.out 3; have hfz21_4 := blk_frozen BK512.out 4; have hfz21_5 := blk_frozen BK512.out 5) | ((with_reducible refine gate_callee (f := 104) rfl ?_); refine goesL_ (some 32) rfl rfl Try.func104 (by kernel_rfl) rfl #[.agg #[.slice none 0 0, .slice none 0 0, .slice none 0 0], .slice none 0 0, .int .i64 a0_3, .agg #[.string a0_0, .string a0_1, .string a0_2], .int .i64 a0_5] rfl (by (try simp only [List.map_toArray, List.map_cons, List.map_nil]); first | done | rfl | (simp only [List.length_drop, List.length_take]; rfl)) ?_; (refine (build_Doc.calls k _ _ ([] : List ByteArray) _ _ ([] : List ByteArray) _ _ ([] : List ByteArray) _ _ ([] : List (S91)) a0_3 a0_0 a0_1 a0_2 a0_5 t514 t517 _ ?side1 ?side2 ?side3 ?side4 ?side5 ?side6 ?side7 ?side8 A17.out).mono ?_); (case side1 => exact Kd.C_nil _ _); (case side2 => exact Nat.le_refl _); (case side3 => exact Kd.C_nil _ _); (case side4 => exact Nat.le_refl _); (case side5 => exact Kd.C_nil _ _); (case side6 => exact Nat.le_refl _); (case side7 => exact Kd.C_nil _ _); (case side8 => exact Nat.le_refl _); rintro e w22 ⟨v515, rfl, ho0, hb⟩; refine ⟨_, rfl, ?_⟩; have n0_ := Aside0.mk (Kd.R_lower ho0 (below_size (by repeat (first | (with_reducible first | exact HB.out | apply below_alloc | apply pw_below_drewN | apply below_drew1 | refine below_set ?_ GE512.out) | exact HB.out)))); have n1_ := Aside0.mk (blk_below (g := gb512) (o := .cells #[.string a0_0, .string a0_1, .string a0_2, .int .i64 a0_3, .int .i64 a0_4, .int .i64 a0_5] 86 (0, 0)) (by (with_reducible repeat (first | refine blk_drewN ?_ _ | refine blk_drew ?_ | refine blk_alloc ?_ _)); exact BK512.out) hb); have n2_ := Aside0.mk (below_step (by repeat (first | (with_reducible first | exact HB.out | apply below_alloc | apply pw_below_drewN | apply below_drew1 | refine below_set ?_ GE512.out) | exact HB.out)) hb); clear BK512; clear HB; have HO516 := n0_; have BK512 := n1_; have HB := n2_; clear n0_ n1_ n2_; (try clear hb); (try clear hb2); (try clear hk); (try clear hi); (try clear ho0)))
     go_ret
     exact ⟨by first | rfl | (simp [errW_none, errW_some] <;> rfl) | (simp [*, errW_none, errW_some] <;> rfl), by repeat (first | (with_reducible first | exact HB.out | apply below_alloc | apply pw_below_drewN | apply below_drew1 | refine below_set ?_ GE512.out) | exact HB.out)⟩
  ·replace c6 := Bool.eq_false_iff.mpr c6
   subst c6
   have H1 : (some 3) = some r := by rw [if_neg (show ¬ (false = true) by decide)] at H; exact H
   clear H
   have H := H1
   clear H1
   obtain rfl := Option.some.inj H
   go_enter Try.func101, Try.ntmps101
   go_wp2_with (first | ((with_reducible refine gate_dst (N := 2) rfl ?_); refine box_event ?hg (N := 2) ?hd (cs := #[.string a0_0, .string a0_1, .string a0_2, .int .i64 a0_3, .int .i64 a0_4, .int .i64 a0_5]) (t := 86) ?hr ?_; (case hd => rfl); (case hg => rfl); (case hr => first | (go_simp; done) | (go_simp; rfl)); intro gb512 hg w23 hbox hb; have n0_ := Aside0.mk (below_step (by repeat (first | (with_reducible first | exact HB.out | apply below_alloc | apply pw_below_drewN | apply below_drew1) | exact HB.out)) hb); have n1_ := Aside0.mk (hbox); have n2_ := Aside0.mk ((by rw [hg]; exact (below_size (by repeat (first | (with_reducible first | exact HB.out | apply below_alloc | apply pw_below_drewN | apply below_drew1) | exact HB.out))) : w.heap.size ≤ gb512)); have n3_ := Aside0.mk ((by rw [hg]; exact (below_size (by repeat (first | (with_reducible first | exact HB.out | apply below_alloc | apply pw_below_drewN | apply below_drew1) | exact HB.out))) : w.heap.size ≤ gb512)); clear HB; have HB := n0_; have BK512 := n1_; have GW512 := n2_; have GE512 := n3_; clear n0_ n1_ n2_ n3_; clear hb hbox hg; have hcz24_0 : w23.cell? ⟨gb512, 0, none⟩ = some (.string a0_0) := (blk_cell BK512.out 0).trans rfl; have hcz24_1 : w23.cell? ⟨gb512, 1, none⟩ = some (.string a0_1) := (blk_cell BK512.out 1).trans rfl; have hcz24_2 : w23.cell? ⟨gb512, 2, none⟩ = some (.string a0_2) := (blk_cell BK512.out 2).trans rfl; have hcz24_3 : w23.cell? ⟨gb512, 3, none⟩ = some (.int .i64 a0_3) := (blk_cell BK512.out 3).trans rfl; have hcz24_4 : w23.cell? ⟨gb512, 4, none⟩ = some (.int .i64 a0_4) := (blk_cell BK512.out 4).trans rfl; have hcz24_5 : w23.cell? ⟨gb512, 5, none⟩ = some (.int .i64 a0_5) := (blk_cell BK512.out 5).trans rfl; have hfz24_0 := blk_frozen BK512.out 0; have hfz24_1 := blk_frozen BK512.out 1; have hfz24_2 := blk_frozen BK512.out 2; have hfz24_3 := blk_frozen BK512.out 3; have hfz24_4 := blk_frozen BK512.out 4; have hfz24_5 := blk_frozen BK512.out 5) | ((with_reducible refine gate_callee (f := 114) rfl ?_); refine goesL_ (some 13) rfl rfl Try.func114 (by kernel_rfl) rfl #[.agg #[.string a0_0, .string a0_1, .string a0_2]] rfl (by (try simp only [List.map_toArray, List.map_cons, List.map_nil]); first | done | rfl | (simp only [List.length_drop, List.length_take]; rfl)) ?_; (with_reducible refine (doc_Labels_Plain.calls a0_0 a0_1 a0_2 false _ A5.out).mono ?_); rintro e w25 ⟨rfl, hb⟩; refine ⟨_, rfl, ?_⟩; have n0_ := Aside0.mk (blk_below (g := gb512) (o := .cells #[.string a0_0, .string a0_1, .string a0_2, .int .i64 a0_3, .int .i64 a0_4, .int .i64 a0_5] 86 (0, 0)) (by (with_reducible repeat (first | refine blk_drewN ?_ _ | refine blk_drew ?_ | refine blk_alloc ?_ _)); exact BK512.out) hb); have n1_ := Aside0.mk (below_step (by repeat (first | (with_reducible first | exact HB.out | apply below_alloc | apply pw_below_drewN | apply below_drew1 | refine below_set ?_ GE512.out) | exact HB.out)) hb); clear BK512; clear HB; have BK512 := n0_; have HB := n1_; clear n0_ n1_; (try clear hb); (try clear hb2); (try clear hk); (try clear hi)))
   go_ret
   exact ⟨by first | rfl | (simp [errW_none, errW_some] <;> rfl) | (simp [*, errW_none, errW_some] <;> rfl), by repeat (first | (with_reducible first | exact HB.out | apply below_alloc | apply pw_below_drewN | apply below_drew1 | refine below_set ?_ GE512.out) | exact HB.out)⟩
end Go.Proofs.Ytfiamddinkokbaa.F
end

section
set_option linter.unusedVariables false
set_option linter.unusedSimpArgs false
namespace Go.Proofs.Ytfiamddinkokbaa.F
open Go.RowKit Go.Shelf Go.Proofs.YtfiamddinkokbaaW.PrintWords
set_option linter.unusedVariables false
set_option linter.unusedSimpArgs false
theorem keep4 {W0 w' : World} {a b c d : Addr} {va vb vc vd : Value} (hb : Below W0.heap.size W0 w') (h : W0.cell? a = some va ∧ W0.cell? b = some vb ∧ W0.cell? c = some vc ∧ W0.cell? d = some vd) :
  w'.cell? a = some va ∧ w'.cell? b = some vb ∧ w'.cell? c = some vc ∧ w'.cell? d = some vd := by
 obtain ⟨h1, h2, h3, h4⟩ := h
 exact ⟨(hb.cell (World.block_lt_of_cell? W0 _ h1)).trans h1, (hb.cell (World.block_lt_of_cell? W0 _ h2)).trans h2, (hb.cell (World.block_lt_of_cell? W0 _ h3)).trans h3, (hb.cell (World.block_lt_of_cell? W0 _ h4)).trans h4⟩
section
variable {W w1 : World} {cs : Array Value} {t : TypeId} {o : Obj}
theorem af1 (hb : Below (W.alloc (.cells cs t)).heap.size (W.alloc (.cells cs t)) w1) : w1.heap[W.heap.size]? = some (.cells cs t (0, 0)) := after_alloc hb
theorem af1d (hb : Below (W.alloc (.cells cs t)).drew.heap.size (W.alloc (.cells cs t)).drew w1) : w1.heap[W.heap.size]? = some (.cells cs t (0, 0)) := after_alloc_drew hb
theorem af2 (hb : Below ((W.alloc (.cells cs t)).alloc o).heap.size ((W.alloc (.cells cs t)).alloc o) w1) : w1.heap[W.heap.size]? = some (.cells cs t (0, 0)) := after_call hb (blk_alloc (World.alloc_heap_new W _) o)
theorem af2d (hb : Below ((W.alloc (.cells cs t)).alloc o).drew.heap.size ((W.alloc (.cells cs t)).alloc o).drew w1) : w1.heap[W.heap.size]? = some (.cells cs t (0, 0)) := after_call hb (blk_drew (blk_alloc (World.alloc_heap_new W _) o))
theorem af4 {cs' : Array Value} {t' : TypeId} (hb : Below ((W.alloc (.cells cs' t')).alloc (.cells cs t)).heap.size ((W.alloc (.cells cs' t')).alloc (.cells cs t)) w1) : w1.heap[W.heap.size + 1]? = some (.cells cs t (0, 0)) := by
 have := after_alloc hb
 rwa [World.size_alloc] at this
theorem af4d {cs' : Array Value} {t' : TypeId} (hb : Below ((W.alloc (.cells cs' t')).alloc (.cells cs t)).drew.heap.size ((W.alloc (.cells cs' t')).alloc (.cells cs t)).drew w1) : w1.heap[W.heap.size + 1]? = some (.cells cs t (0, 0)) := by
 have := after_alloc_drew hb
 rwa [World.size_alloc] at this
end
theorem C3 {W : World} {g : Nat} {a b c : ByteArray} (h : W.heap[g]? = some (.cells #[.string a, .string b, .string c] 9 (0, 0))) : Kd.C Kd.string W (some ⟨g, 0, none⟩) 3 [a, b, c] := by
 refine ⟨rfl, by simp, fun _ => ⟨⟨g, 0, none⟩, rfl, fun j x hj => ?_⟩⟩
 have hc : ∀ i, W.cell? ⟨g, i, none⟩ = (#[Value.string a, .string b, .string c])[i]? := fun i => blk_cell h i
 refine ⟨[.string x], rfl, rfl, fun i u hu => ?_⟩
 cases i with
 | succ i => simp at hu
 | zero =>
  have hu' : u = .string x := by simpa using hu.symm
  subst hu'
  show W.cell? ((⟨g, 0, none⟩ : Addr).add (j * 1 + 0)) = _
  rw [show (⟨g, 0, none⟩ : Addr).add (j * 1 + 0) = ⟨g, j, none⟩ by unfold Addr.add; split <;> simp_all]
  rw [hc]
  match j, hj with
  | 0, hj => simp at hj; subst hj; rfl
  | 1, hj => simp at hj; subst hj; rfl
  | 2, hj => simp at hj; subst hj; rfl
  | j + 3, hj => simp at hj
theorem R_to {α : Type} {d : Kd α} {e base : Nat} {ok ok' : Nat → Prop} {W W1 : World} {v : Value} {xs : List α} (hE : d.E = []) (h : d.R e W base ok v xs) (hb : Below W.heap.size W W1) (hok : ∀ k, v.ownBlock = some k → ok' k) : d.R e W1 base ok' v xs := Kd.R_reok hE (Kd.R_below h hb) hok
theorem zero7 {w : World} {k : Nat} (h : w.heap[k]? = some (.cells #[.slice none 0 0, .slice none 0 0, .slice none 0 0, .slice none 0 0, .string ⟨#[]⟩, .int .i64 0, .int .i64 0] 80 (0, 0))) : w.cell? ⟨k, 0, none⟩ = some (.slice none 0 0) ∧ w.cell? ⟨k, 1, none⟩ = some (.slice none 0 0) ∧ w.cell? ⟨k, 2, none⟩ = some (.slice none 0 0) ∧ w.cell? ⟨k, 3, none⟩ = some (.slice none 0 0) ∧ w.cell? ⟨k, 4, none⟩ = some (.string ⟨#[]⟩) ∧ w.cell? ⟨k, 5, none⟩ = some (.int .i64 0) ∧ w.cell? ⟨k, 6, none⟩ = some (.int .i64 0) ∧ w.frozen? ⟨k, 0, none⟩ = false ∧ w.frozen? ⟨k, 1, none⟩ = false ∧ w.frozen? ⟨k, 2, none⟩ = false ∧ w.frozen? ⟨k, 3, none⟩ = false ∧ w.frozen? ⟨k, 4, none⟩ = false ∧ w.frozen? ⟨k, 5, none⟩ = false ∧ w.frozen? ⟨k, 6, none⟩ = false :=
 ⟨(blk_cell h 0).trans rfl, (blk_cell h 1).trans rfl, (blk_cell h 2).trans rfl, (blk_cell h 3).trans rfl, (blk_cell h 4).trans rfl, (blk_cell h 5).trans rfl, (blk_cell h 6).trans rfl, Lib.frozen_of_heap h 0, Lib.frozen_of_heap h 1, Lib.frozen_of_heap h 2, Lib.frozen_of_heap h 3, Lib.frozen_of_heap h 4, Lib.frozen_of_heap h 5, Lib.frozen_of_heap h 6⟩
theorem below_set7 {B k : Nat} {W0 W : World} (hb : Below B W0 W) (hk : B ≤ k) (v0 v1 v2 v3 v4 v5 v6 : Value) : Below B W0 (((((((W.setCell ⟨k, 0, none⟩ v0).setCell ⟨k, 1, none⟩ v1).setCell ⟨k, 2, none⟩ v2).setCell ⟨k, 3, none⟩ v3).setCell ⟨k, 4, none⟩ v4).setCell ⟨k, 5, none⟩ v5).setCell ⟨k, 6, none⟩ v6) := (((((((hb.setCell (p := ⟨k, 0, none⟩) hk v0).setCell (p := ⟨k, 1, none⟩) hk v1).setCell (p := ⟨k, 2, none⟩) hk v2).setCell (p := ⟨k, 3, none⟩) hk v3).setCell (p := ⟨k, 4, none⟩) hk v4).setCell (p := ⟨k, 5, none⟩) hk v5).setCell (p := ⟨k, 6, none⟩) hk v6)
theorem block_set7 {k : Nat} {T : TypeId} {W : World} {u0 u1 u2 u3 u4 u5 u6 : Value} (h : W.heap[k]? = some (.cells #[u0, u1, u2, u3, u4, u5, u6] T (0, 0))) (v0 v1 v2 v3 v4 v5 v6 : Value) : (((((((W.setCell ⟨k, 0, none⟩ v0).setCell ⟨k, 1, none⟩ v1).setCell ⟨k, 2, none⟩ v2).setCell ⟨k, 3, none⟩ v3).setCell ⟨k, 4, none⟩ v4).setCell ⟨k, 5, none⟩ v5).setCell ⟨k, 6, none⟩ v6).heap[k]? = some (.cells #[v0, v1, v2, v3, v4, v5, v6] T (0, 0)) := by
 simp [World.setCell, Array.getElem?_modify, h]
theorem R_set7 {α : Type} {d : Kd α} {e base k T : Nat} {ok : Nat → Prop} {W : World} {v : Value} {xs : List α} {u0 u1 u2 u3 u4 u5 u6 : Value} (h : d.R e W base ok v xs) (hk : W.heap[k]? = some (.cells #[u0, u1, u2, u3, u4, u5, u6] T (0, 0))) (hT : ∀ q, q ∈ e :: d.E → q ≠ T) (v0 v1 v2 v3 v4 v5 v6 : Value) : d.R e (((((((W.setCell ⟨k, 0, none⟩ v0).setCell ⟨k, 1, none⟩ v1).setCell ⟨k, 2, none⟩ v2).setCell ⟨k, 3, none⟩ v3).setCell ⟨k, 4, none⟩ v4).setCell ⟨k, 5, none⟩ v5).setCell ⟨k, 6, none⟩ v6) base ok v xs := by
 refine Kd.R_mono (Kd.R_step (Kd.R_types h hk hT) (fun j hj _ => ?_)) (fun _ hj => hj.1)
 have hne : j ≠ k := hj.2
 exact ((Below.heap_setCell _ _ _ _ hne).trans ((Below.heap_setCell _ _ _ _ hne).trans ((Below.heap_setCell _ _ _ _ hne).trans ((Below.heap_setCell _ _ _ _ hne).trans ((Below.heap_setCell _ _ _ _ hne).trans ((Below.heap_setCell _ _ _ _ hne).trans (Below.heap_setCell _ _ _ _ hne)))))))
theorem new1 (W : World) (o : Obj) (cs : Array Value) (t : TypeId) : ((W.alloc o).alloc (.cells cs t)).heap[W.heap.size + 1]? = some (.cells cs t (0, 0)) := by
 have := World.alloc_heap_new (W.alloc o) (.cells cs t)
 rwa [World.size_alloc] at this
def Post1 (W0 W : World) (lp : List S196) (e : Ending) (w' : World) : Prop := ∃ A c, e = .returned (.slice A lp.length c) ∧ Kd.R k196 196 w' W0.heap.size (fun _ => True) (.slice A lp.length c) lp ∧ Below W.heap.size W w' ∧ Below W0.heap.size W0 w'
theorem tx1 {W0 : World} {b0 b1 : Nat} {ok0 ok1 : Nat → Prop} {A0 A1 : Option Addr} {c0 c1 : Nat} {B L : List ByteArray} {lp : List S196} (h0 : Kd.R Kd.string 9 W0 b0 ok0 (.slice A0 B.length c0) B) (h1 : Kd.R Kd.string 9 W0 b1 ok1 (.slice A1 L.length c1) L) (hm : merge_match.f B L = some lp) (W : World) (hb : Below W0.heap.size W0 W) :
  Calls Try.prog 102 #[.slice A0 B.length c0, .slice A1 L.length c1] W (Post1 W0 W lp) := by
 refine (merge_match.calls (fun _ => True) A0 c0 B (fun _ => True) A1 c1 L lp W (Kd.R_V (Kd.R_mono (Kd.R_below h0 hb) (fun _ _ => trivial))) (Kd.R_V (Kd.R_mono (Kd.R_below h1 hb) (fun _ _ => trivial))) hm).mono ?_
 rintro e w' ⟨v, rfl, hr, hb'⟩
 obtain ⟨A, c, rfl⟩ := Kd.R_slice hr
 exact ⟨A, c, rfl, Kd.R_mono (Kd.R_lower hr hb.size) (fun _ _ => trivial), hb', below_step hb hb'⟩
def Post2 (W0 w5 W : World) (A3 : Option Addr) (c3 : Nat) (lp rp : List S196) (e : Ending) (w' : World) : Prop := ∃ A c, e = .returned (.slice A rp.length c) ∧ Kd.R k196 196 w' W0.heap.size (fun k_ => some k_ ≠ (Value.slice A rp.length c).ownBlock) (.slice A3 lp.length c3) lp ∧
 Kd.R k196 196 w' W0.heap.size (fun k_ => some k_ ≠ (Value.slice A3 lp.length c3).ownBlock) (.slice A rp.length c) rp ∧ Below W.heap.size W w' ∧ Below W0.heap.size W0 w' ∧ Below w5.heap.size w5 w'
theorem tx2 {W0 w5 : World} {b0 b1 : Nat} {ok0 ok1 : Nat → Prop} {A0 A1 A3 : Option Addr} {c0 c1 c3 : Nat} {B L : List ByteArray} {lp rp : List S196} (h0 : Kd.R Kd.string 9 W0 b0 ok0 (.slice A0 B.length c0) B) (h1 : Kd.R Kd.string 9 W0 b1 ok1 (.slice A1 L.length c1) L) (hm : merge_match.f B L = some rp)
  (hr : Kd.R k196 196 w5 W0.heap.size (fun _ => True) (.slice A3 lp.length c3) lp) (hq : Below W0.heap.size W0 w5) (W : World) (hb : Below w5.heap.size w5 W) :
  Calls Try.prog 102 #[.slice A0 B.length c0, .slice A1 L.length c1] W (Post2 W0 w5 W A3 c3 lp rp) := by
 have hbW := below_step hq hb
 refine (merge_match.calls (fun _ => True) A0 c0 B (fun _ => True) A1 c1 L rp W (Kd.R_V (Kd.R_mono (Kd.R_below h0 hbW) (fun _ _ => trivial))) (Kd.R_V (Kd.R_mono (Kd.R_below h1 hbW) (fun _ _ => trivial))) hm).mono ?_
 rintro e w' ⟨v, rfl, hr2, hb'⟩
 obtain ⟨A, c, rfl⟩ := Kd.R_slice hr2
 have hlt := Kd.R_lt hr
 have hge := Kd.R_base hr2
 refine ⟨A, c, rfl, R_to rfl hr (below_step hb hb') (fun k hk e => ?_), Kd.R_reok rfl (Kd.R_lower hr2 hbW.size) (fun k hk e => ?_), hb', below_step hbW hb', below_step hb hb'⟩
 ·have h1 := hlt k hk
  have h2 := hge k e.symm
  have := hb.size
  omega
 ·have h1 := hlt k e.symm
  have h2 := hge k hk
  have := hb.size
  omega
def Post3 (W0 W : World) (W6 : Int) (A3 A4 : Option Addr) (c3 c4 : Nat) (lp rp : List S196) (e : Ending) (w' : World) : Prop := e = .returned (.int .i64 W6) ∧ Kd.R k196 196 w' W0.heap.size (fun k_ => some k_ ≠ (Value.slice A4 rp.length c4).ownBlock) (.slice A3 lp.length c3) lp ∧
 Kd.R k196 196 w' W0.heap.size (fun k_ => some k_ ≠ (Value.slice A3 lp.length c3).ownBlock) (.slice A4 rp.length c4) rp ∧ Below W.heap.size W w' ∧ Below W0.heap.size W0 w'
theorem tx3 {k : Nat} {W0 w6 : World} {A3 A4 : Option Addr} {c3 c4 : Nat} {lp rp : List S196} {wd W6 : Int} {a0 a1 a2 : ByteArray} (hw : doc_Width.f k wd [a0, a1, a2] = some W6)
  (hr : Kd.R k196 196 w6 W0.heap.size (fun k_ => some k_ ≠ (Value.slice A4 rp.length c4).ownBlock) (.slice A3 lp.length c3) lp) (hr2 : Kd.R k196 196 w6 W0.heap.size (fun k_ => some k_ ≠ (Value.slice A3 lp.length c3).ownBlock) (.slice A4 rp.length c4) rp) (hq : Below W0.heap.size W0 w6) (W : World) (g : Nat) (hb : Below w6.heap.size w6 W)
  (hg : W.heap[g]? = some (.cells #[.string a0, .string a1, .string a2] 9 (0, 0))) :
  Calls Try.prog 19 #[.int .i64 wd, .slice (some ⟨g, 0, none⟩) 3 3] W (Post3 W0 W W6 A3 A4 c3 c4 lp rp) := by
 refine (doc_Width.calls k wd (some ⟨g, 0, none⟩) 3 [a0, a1, a2] W6 W (C3 hg) (by simp) hw).mono ?_
 rintro e w' ⟨rfl, hb'⟩
 have h := below_step hb hb'
 exact ⟨rfl, Kd.R_below hr h, Kd.R_below hr2 h, hb', below_step hq h⟩
structure TSt (w W : World) (b11 b12 : Nat) (g0 g1 g2 : ByteArray) (st wd fv : Int) (A0 A1 A2 : Option Addr) (c0 c1 c2 : Nat) (B L R : List ByteArray) (cs : Array Value) : Prop where
 bel : Below w.heap.size w W
 lo : w.heap.size + 1 < b11
 ne : b11 < b12
 x7 : W.heap[w.heap.size]? = some (.cells #[.string g0, .string g1, .string g2, .int .i64 st, .int .i64 wd, .int .i64 fv] 86 (0, 0))
 x8 : W.heap[w.heap.size + 1]? = some (.cells #[.slice none 0 0, .slice none 0 0, .slice none 0 0, .slice none 0 0, .string (⟨#[]⟩ : ByteArray), .int .i64 0, .int .i64 0] 80 (0, 0))
 x11 : W.heap[b11]? = some (.cells #[.slice A0 B.length c0, .slice A1 L.length c1, .slice A2 R.length c2] 144 (0, 0))
 x12 : W.heap[b12]? = some (.cells cs 80 (0, 0))
 r0 : Kd.R Kd.string 9 W w.heap.size (fun _ => True) (.slice A0 B.length c0) B
 r1 : Kd.R Kd.string 9 W w.heap.size (fun _ => True) (.slice A1 L.length c1) L
 r2 : Kd.R Kd.string 9 W w.heap.size (fun _ => True) (.slice A2 R.length c2) R
section
variable {w W W1 : World} {b11 b12 : Nat} {g0 g1 g2 : ByteArray} {st wd fv : Int} {A0 A1 A2 : Option Addr} {c0 c1 c2 : Nat} {B L R : List ByteArray} {cs : Array Value}
theorem TSt.call (h : TSt w W b11 b12 g0 g1 g2 st wd fv A0 A1 A2 c0 c1 c2 B L R cs) (hb : Below W.heap.size W W1) : TSt w W1 b11 b12 g0 g1 g2 st wd fv A0 A1 A2 c0 c1 c2 B L R cs :=
 ⟨below_step h.bel hb, h.lo, h.ne, after_call hb h.x7, after_call hb h.x8, after_call hb h.x11, after_call hb h.x12, Kd.R_below h.r0 hb, Kd.R_below h.r1 hb, Kd.R_below h.r2 hb⟩
theorem TSt.set (h : TSt w W b11 b12 g0 g1 g2 st wd fv A0 A1 A2 c0 c1 c2 B L R cs) (j : Nat) (v : Value) (cs' : Array Value) (hcs : cs.setIfInBounds j v = cs') : TSt w (W.setCell ⟨b12, j, none⟩ v) b11 b12 g0 g1 g2 st wd fv A0 A1 A2 c0 c1 c2 B L R cs' := by
 have l1 := h.lo
 have l2 := h.ne
 refine ⟨h.bel.setCell (p := ⟨b12, j, none⟩) (show w.heap.size ≤ b12 by omega) v, l1, l2, ?_, ?_, ?_, ?_, Kd.R_set h.r0 h.x12 (by decide) j v, Kd.R_set h.r1 h.x12 (by decide) j v, Kd.R_set h.r2 h.x12 (by decide) j v⟩
 ·exact (Below.heap_setCell _ _ _ _ (by show w.heap.size ≠ b12; omega)).trans h.x7
 ·exact (Below.heap_setCell _ _ _ _ (by show w.heap.size + 1 ≠ b12; omega)).trans h.x8
 ·exact (Below.heap_setCell _ _ _ _ (by show b11 ≠ b12; omega)).trans h.x11
 ·subst hcs
  simp [World.setCell, Array.getElem?_modify, h.x12]
end
end Go.Proofs.Ytfiamddinkokbaa.F
end

section
set_option linter.unusedVariables false
set_option linter.unusedSimpArgs false
namespace Go.Proofs.Ytfiamddinkokbaa.F
open Go.RowKit Go.Shelf Go.Proofs.YtfiamddinkokbaaW.PrintWords
set_option linter.unusedVariables false
set_option linter.unusedSimpArgs false
def Texted (w : World) (r1 : List PP) (r2 r3 : List SP) (r4 : List SC) (r5 : ByteArray) (r6 r7 r8 : Int) (e : Ending) (w' : World) : Prop :=
 ∃ v0_ v1_ v2_ v3_ : Value, e = .returned (.tuple #[.agg #[v0_, v1_, v2_, v3_, .string r5, .int .i64 r6, .int .i64 r7], .int .i64 r8]) ∧ Kd.R k106 106 w' w.heap.size (fun _ => True) v0_ r1 ∧ Kd.R k196 196 w' w.heap.size (fun k_ => some k_ ≠ (v2_ : Value).ownBlock) v1_ r2 ∧ Kd.R k196 196 w' w.heap.size (fun k_ => some k_ ≠ (v1_ : Value).ownBlock) v2_ r3 ∧ Kd.R k91 91 w' w.heap.size (fun _ => True) v3_ r4 ∧ Below w.heap.size w w'
set_option maxHeartbeats 8000000 in
set_option maxRecDepth 100000 in
theorem texts_bad (k : Nat) (a0 a1 a2 g0 g1 g2 : ByteArray) (st wd fv ec : Int) (w : World) (hs : a0.size ≤ 1000000000000 ∧ a1.size ≤ 1000000000000 ∧ a2.size ≤ 1000000000000) (h : merge_Options_wrong.f k g0 g1 g2 st wd fv ((a0.size : Int) + a1.size + a2.size) = some ec) (hne : ec ≠ 0) :
  Calls Try.prog 58 #[.string a0, .string a1, .string a2, .agg #[.string g0, .string g1, .string g2, .int .i64 st, .int .i64 wd, .int .i64 fv]] w (Texted w [] [] [] [] ⟨#[]⟩ 0 0 ec) := by
 have HW := Aside0.mk (fun W => merge_Options_wrong.calls k g0 g1 g2 st wd fv _ ec W h)
 have q1 : (ec != (0 : Int)) = true := bne_iff_ne.2 hne
 obtain ⟨s0, s1, s2⟩ := hs
 clear h hne
 go_enter Try.func58, Try.ntmps58
 go_wp2_with (first | (go_at_call 101; (with_reducible refine (HW.out _).mono ?_); rintro e w1 ⟨rfl, hb⟩; obtain ⟨hb1, hx7, hx8⟩ := two_boxes hb; have HB := Aside0.mk hb1; obtain ⟨e0, e1, e2, e3, e4, e5, e6, f0, f1, f2, f3, f4, f5, f6⟩ := zero7 hx8; have HZ := Aside0.mk hx8; clear hb hb1 hx7 hx8))
 refine bodyPost_ret (results_ct rfl _ _ (w.heap.size + 1) 80 #[.slice none 0 0, .slice none 0 0, .slice none 0 0, .slice none 0 0, .string (⟨#[]⟩ : ByteArray), .int .i64 0, .int .i64 0] (0, 0) _ rfl (block_set7 HZ.out _ _ _ _ _ _ _) Try.underlying80 rfl (by kernel_rfl)) rfl ?_
 exact ⟨_, _, _, _, rfl, Kd.R_nil _ _ _ _ _, Kd.R_nil _ _ _ _ _, Kd.R_nil _ _ _ _ _, Kd.R_nil _ _ _ _ _, below_set7 HB.out (by omega) _ _ _ _ _ _ _⟩
set_option maxHeartbeats 16000000 in
set_option maxRecDepth 100000 in
theorem texts_good (k : Nat) (a0 a1 a2 g0 g1 g2 : ByteArray) (st wd fv W6 e1 e2 e3 n : Int) (B L R : List ByteArray) (lp rp : List SP) (cs : List SC) (d : List PP) (t : ByteArray) (w : World) (hs : a0.size ≤ 1000000000000 ∧ a1.size ≤ 1000000000000 ∧ a2.size ≤ 1000000000000)
  (h : merge_Options_wrong.f k g0 g1 g2 st wd fv ((a0.size : Int) + a1.size + a2.size) = some 0) (h0 : lines_Split.f a0 = some B) (h1 : lines_Split.f a1 = some L) (h2 : lines_Split.f a2 = some R) (hm1 : merge_match.f B L = some lp) (hm2 : merge_match.f B R = some rp)
  (hwd : doc_Width.f k wd [a0, a1, a2] = some W6) (hof : chunk_Of.f k (B.length : Int) (L.length : Int) (R.length : Int) lp rp = some (cs, e1)) (hd : build_Doc.f k B L R cs st g0 g1 g2 fv = some (d, e2)) (hp : mark_Print.f k d W6 = some (t, e3)) (hn : build_Count.f k B L R cs = some n) :
  Calls Try.prog 58 #[.string a0, .string a1, .string a2, .agg #[.string g0, .string g1, .string g2, .int .i64 st, .int .i64 wd, .int .i64 fv]] w (Texted w d lp rp cs t W6 n 0) := by
 have HW := Aside0.mk (fun W => merge_Options_wrong.calls k g0 g1 g2 st wd fv _ 0 W h)
 have HS0 := Aside0.mk (fun W => lines_Split.calls a0 B W h0)
 have HS1 := Aside0.mk (fun W => lines_Split.calls a1 L W h1)
 have HS2 := Aside0.mk (fun W => lines_Split.calls a2 R W h2)
 have HM1 := Aside0.mk hm1
 have HM2 := Aside0.mk hm2
 have HWD := Aside0.mk hwd
 have HOF := Aside0.mk hof
 have HD := Aside0.mk hd
 have HP := Aside0.mk hp
 have HN := Aside0.mk hn
 obtain ⟨s0, s1, s2⟩ := hs
 clear h h0 h1 h2 hm1 hm2 hwd hof hd hp hn
 go_enter Try.func58, Try.ntmps58
 go_wp2_with (first
  | (go_at_call 101; (with_reducible refine (HW.out _).mono ?_); rintro e w1 ⟨rfl, hb⟩; obtain ⟨hb1, hx7, hx8⟩ := two_boxes hb; have HB1 := Aside0.mk hb1; have HX7 := Aside0.mk hx7; have HX8 := Aside0.mk hx8; clear hb hb1 hx7 hx8)
  | (go_at_call 29; (with_reducible refine (HS0.out _).mono ?_); rintro e w2 ⟨v0, rfl, hr, hb⟩; obtain ⟨A0, c0, rfl⟩ := Kd.R_slice hr; have HR0 := Aside0.mk (Kd.R_lower hr HB1.out.size); have HB2 := Aside0.mk (below_step HB1.out hb); have HX72 := Aside0.mk (after_call hb HX7.out); have HX82 := Aside0.mk (after_call hb HX8.out); clear hr hb)
  | (go_at_call 29; (with_reducible refine (HS1.out _).mono ?_); rintro e w3 ⟨v1, rfl, hr, hb⟩; obtain ⟨A1, c1, rfl⟩ := Kd.R_slice hr; have HR1 := Aside0.mk (Kd.R_lower hr HB2.out.size); have HR03 := Aside0.mk (Kd.R_below HR0.out hb); have HB3 := Aside0.mk (below_step HB2.out hb); have HX73 := Aside0.mk (after_call hb HX72.out); have HX83 := Aside0.mk (after_call hb HX82.out); clear hr hb)
  | (go_at_call 29; (with_reducible refine (HS2.out _).mono ?_); rintro e w4 ⟨v2, rfl, hr, hb⟩; obtain ⟨A2, c2, rfl⟩ := Kd.R_slice hr; have HR2 := Aside0.mk (Kd.R_lower hr HB3.out.size); have HR04 := Aside0.mk (Kd.R_below HR03.out hb); have HR14 := Aside0.mk (Kd.R_below HR1.out hb); have HB4 := Aside0.mk (below_step HB3.out hb); have HX74 := Aside0.mk (after_call hb HX73.out); have HX84 := Aside0.mk (after_call hb HX83.out); clear hr hb HX7 HX8 HX72 HX82 HX73 HX83 HB1 HB2 HB3 HR0 HR03 HR1))
 clear HW HS0 HS1 HS2
 have hbel := below_alloc (Below.refl w4.heap.size w4) (.cells #[.slice A0 B.length c0, .slice A1 L.length c1, .slice A2 R.length c2] 144)
 have HX11 := Aside0.mk (World.alloc_heap_new w4 (.cells #[.slice A0 B.length c0, .slice A1 L.length c1, .slice A2 R.length c2] 144))
 have HX7 := Aside0.mk (after_call hbel HX74.out)
 have HX8 := Aside0.mk (after_call hbel HX84.out)
 have HR0 := Aside0.mk (Kd.R_below HR04.out hbel)
 have HR1 := Aside0.mk (Kd.R_below HR14.out hbel)
 have HR2' := Aside0.mk (Kd.R_below HR2.out hbel)
 have HB := Aside0.mk (below_step HB4.out hbel)
 have HZ4 := Aside0.mk HB4.out.size
 have HLO : Aside0 (w.heap.size + 1 < w4.heap.size) := ⟨(Array.getElem?_eq_some_iff.1 HX84.out).1⟩
 generalize (w4.alloc (.cells #[.slice A0 B.length c0, .slice A1 L.length c1, .slice A2 R.length c2] 144)) = W0 at *
 clear hbel HX74 HX84 HR04 HR14 HR2 HB4
 obtain ⟨b11, hb11⟩ : ∃ b11, b11 = w4.heap.size := ⟨_, rfl⟩
 rw [← hb11] at HX11 HZ4 HLO ⊢
 clear hb11
 have p0 := (blk_cell HX11.out 0).trans (rfl : _ = some (Value.slice A0 B.length c0))
 have p1 := (blk_cell HX11.out 1).trans (rfl : _ = some (Value.slice A1 L.length c1))
 have p2 := (blk_cell HX11.out 2).trans (rfl : _ = some (Value.slice A2 R.length c2))
 have p4 := (blk_cell HX7.out 4).trans (rfl : _ = some (Value.int .i64 wd))
 have hS4 : W0.cell? ⟨b11, 0, none⟩ = some (.slice A0 B.length c0) ∧ W0.cell? ⟨b11, 1, none⟩ = some (.slice A1 L.length c1) ∧ W0.cell? ⟨b11, 2, none⟩ = some (.slice A2 R.length c2) ∧ W0.cell? ⟨w.heap.size, 4, none⟩ = some (.int .i64 wd) := ⟨p0, p1, p2, p4⟩
 have HC1 := Aside0.mk (tx1 HR0.out HR1.out HM1.out)
 go_upto_region 6 with (fail)
 go_cut [12] (fun v12 wc => ∃ b12 A3 c3 A4 c4, v12 = .pointer (some ⟨b12, 0, none⟩) ∧ Aside0 (W0.heap.size ≤ b12) ∧ Aside0 (wc.heap[b12]? = some (.cells #[.slice none 0 0, .slice A3 lp.length c3, .slice A4 rp.length c4, .slice none 0 0, .string (⟨#[]⟩ : ByteArray), .int .i64 W6, .int .i64 0] 80 (0, 0))) ∧ Aside0 (Below W0.heap.size W0 wc) ∧ Aside0 (Kd.R k196 196 wc W0.heap.size (fun k_ => some k_ ≠ (Value.slice A4 rp.length c4).ownBlock) (.slice A3 lp.length c3) lp) ∧ Aside0 (Kd.R k196 196 wc W0.heap.size (fun k_ => some k_ ≠ (Value.slice A3 lp.length c3).ownBlock) (.slice A4 rp.length c4) rp))
 case first =>
  have HQ : Aside0 (Below W0.heap.size W0 W0.drew) := ⟨below_drew (Below.refl _ _)⟩
  have tk1 : True := trivial
  have tk2 : True := trivial
  have tk3 : True := trivial
  go_wp2
  go_region_held3 (fun w' => w'.cell? ⟨b11, 0, none⟩ = some (.slice A0 B.length c0) ∧ w'.cell? ⟨b11, 1, none⟩ = some (.slice A1 L.length c1) ∧ w'.cell? ⟨b11, 2, none⟩ = some (.slice A2 R.length c2) ∧ w'.cell? ⟨w.heap.size, 4, none⟩ = some (.int .i64 wd))
   (((with_reducible refine keep4 (W0 := W0) ?_ hS4); (first | (with_reducible exact HQ.out) | (with_reducible exact below_alloc HQ.out _) | (with_reducible exact below_alloc (below_alloc HQ.out _) _) | (with_reducible exact below_drew (below_alloc (Below.refl _ _) _)) | (with_reducible exact below_drew (below_alloc (below_alloc (Below.refl _ _) _) _)) | (refine below_set7 HQ.out ?_ _ _ _ _ _ _ _; have n5 := HN5.out; have n6 := HN6.out; omega))))
   (first
    | ((refine Go.Proofs.YtfiamddinkokbaaW.PrintLast.goes_ Try.func102 (by kernel_rfl) rfl #[.slice A0 B.length c0, .slice A1 L.length c1] (by rfl) rfl rfl (by (try simp only [List.map_toArray, List.map_cons, List.map_nil]); rfl) ?_; have _t := tk1; refine (HC1.out _ ?rel).mono ?_; (case rel => (first | (with_reducible exact below_drew (Below.refl _ _)) | (with_reducible exact below_drew (below_alloc (Below.refl _ _) _)) | (with_reducible exact below_drew (below_alloc (below_alloc (Below.refl _ _) _) _)))); rintro e w5 ⟨A3, c3, rfl, hr, hb, hq⟩; clear tk1 HQ; have HQ := Aside0.mk hq; have HN5 := Aside0.mk hq.size; have HC2 := Aside0.mk (tx2 HR0.out HR2'.out HM2.out hr hq); (try (have hz : w5.heap[_]? = some (Obj.cells #[.string a0, .string a1, .string a2] 9 (0, 0)) := (by first | (with_reducible exact af4 hb) | (with_reducible exact af4d hb) | (with_reducible exact af2 hb) | (with_reducible exact af2d hb) | (with_reducible exact af1 hb) | (with_reducible exact af1d hb)); have HS := Aside0.mk hz; clear hz)); (try (have hz : w5.heap[_]? = some (Obj.cells #[.slice none 0 0, .slice none 0 0, .slice none 0 0, .slice none 0 0, .string (⟨#[]⟩ : ByteArray), .int .i64 0, .int .i64 0] 80 (0, 0)) := (by first | (with_reducible exact af4 hb) | (with_reducible exact af4d hb) | (with_reducible exact af2 hb) | (with_reducible exact af2d hb) | (with_reducible exact af1 hb) | (with_reducible exact af1d hb)); have HA := Aside0.mk hz; clear hz)); clear hr hb hq; refine ⟨_, rfl, ?_⟩))
    | ((refine Go.Proofs.YtfiamddinkokbaaW.PrintLast.goes_ Try.func102 (by kernel_rfl) rfl #[.slice A0 B.length c0, .slice A2 R.length c2] (by rfl) rfl rfl (by (try simp only [List.map_toArray, List.map_cons, List.map_nil]); rfl) ?_; have _t := tk2; refine (HC2.out _ ?rel).mono ?_; (case rel => (first | (with_reducible exact Below.refl _ _) | (with_reducible exact below_alloc (Below.refl _ _) _) | (with_reducible exact below_alloc (below_alloc (Below.refl _ _) _) _))); rintro e w6 ⟨A4, c4, rfl, hr, hr2, hb, hq, h5⟩; clear tk2 HQ HC2; have HQ := Aside0.mk hq; have HN6 := Aside0.mk hq.size; have HC3 := Aside0.mk (tx3 HWD.out hr hr2 hq); (try (have hz := after_call h5 HS.out; clear HS; have HS := Aside0.mk hz; clear hz)); (try (have hz := after_call h5 HA.out; clear HA; have HA := Aside0.mk hz; clear hz)); (try (have hz : w6.heap[_]? = some (Obj.cells #[.string a0, .string a1, .string a2] 9 (0, 0)) := (by first | (with_reducible exact af4 hb) | (with_reducible exact af4d hb) | (with_reducible exact af2 hb) | (with_reducible exact af2d hb) | (with_reducible exact af1 hb) | (with_reducible exact af1d hb)); have HS := Aside0.mk hz; clear hz)); (try (have hz : w6.heap[_]? = some (Obj.cells #[.slice none 0 0, .slice none 0 0, .slice none 0 0, .slice none 0 0, .string (⟨#[]⟩ : ByteArray), .int .i64 0, .int .i64 0] 80 (0, 0)) := (by first | (with_reducible exact af4 hb) | (with_reducible exact af4d hb) | (with_reducible exact af2 hb) | (with_reducible exact af2d hb) | (with_reducible exact af1 hb) | (with_reducible exact af1d hb)); have HA := Aside0.mk hz; clear hz)); clear hr hr2 hb hq h5; refine ⟨_, rfl, ?_⟩))
    | ((refine Go.Proofs.YtfiamddinkokbaaW.PrintLast.goes_ Try.func19 (by kernel_rfl) rfl #[.int .i64 wd, .slice (some ⟨_, 0, none⟩) 3 3] (by rfl) rfl rfl (by (try simp only [List.map_toArray, List.map_cons, List.map_nil]); rfl) ?_; have _t := tk3; refine (HC3.out _ _ ?rel ?hg).mono ?_; (case rel => (first | (with_reducible exact Below.refl _ _) | (with_reducible exact below_alloc (Below.refl _ _) _) | (with_reducible exact below_alloc (below_alloc (Below.refl _ _) _) _))); (case hg => (first | (with_reducible exact HS.out) | (with_reducible exact blk_alloc HS.out _) | (with_reducible exact World.alloc_heap_new _ _) | (with_reducible exact blk_alloc (World.alloc_heap_new _ _) _) | (with_reducible exact new1 _ _ _ _))); rintro e w7 ⟨rfl, hr, hr2, hb, hq⟩; clear tk3 HQ HC3; have HQ := Aside0.mk hq; have HRL := Aside0.mk hr; have HRR := Aside0.mk hr2; (first | (have hz := after_call hb HA.out; clear HA; have HA := Aside0.mk hz; clear hz) | (have hz := after_call hb (blk_alloc HA.out _); clear HA; have HA := Aside0.mk hz; clear hz) | skip); (try (have hz : w7.heap[_]? = some (Obj.cells #[.slice none 0 0, .slice none 0 0, .slice none 0 0, .slice none 0 0, .string (⟨#[]⟩ : ByteArray), .int .i64 0, .int .i64 0] 80 (0, 0)) := (by first | (with_reducible exact af4 hb) | (with_reducible exact af4d hb) | (with_reducible exact af2 hb) | (with_reducible exact af2d hb) | (with_reducible exact af1 hb) | (with_reducible exact af1d hb)); have HA := Aside0.mk hz; clear hz)); clear hr hr2 hb hq; (try (have hz7 := zero7 HA.out; obtain ⟨e0, e1, e2, e3, e4, e5, e6, f0, f1, f2, f3, f4, f5, f6⟩ := hz7)); refine ⟨_, rfl, ?_⟩)))
  all_goals go_wp2
  all_goals go_meet
  all_goals first
   | exact ⟨_, A3, c3, A4, c4, rfl, ⟨HQ.out.size⟩, ⟨World.alloc_heap_new _ _⟩, ⟨below_alloc HQ.out _⟩, ⟨Kd.R_below HRL.out (below_alloc (Below.refl _ _) _)⟩, ⟨Kd.R_below HRR.out (below_alloc (Below.refl _ _) _)⟩⟩
   | exact ⟨_, A3, c3, A4, c4, rfl, ⟨by have n5 := HN5.out; have n6 := HN6.out; omega⟩, ⟨block_set7 HA.out _ _ _ _ _ _ _⟩, ⟨below_set7 HQ.out (by have n5 := HN5.out; have n6 := HN6.out; omega) _ _ _ _ _ _ _⟩, ⟨R_set7 HRL.out HA.out (by decide) _ _ _ _ _ _ _⟩, ⟨R_set7 HRR.out HA.out (by decide) _ _ _ _ _ _ _⟩⟩
 case rest =>
  obtain ⟨b12, A3, c3, A4, c4, rfl, HH, HZ, HW, HRL, HRR⟩ := hcut
  have hlo : w.heap.size + 1 < b11 := by have := (Array.getElem?_eq_some_iff.1 HX8.out).1; have := HZ4.out; have := HLO.out; omega
  have hne : b11 < b12 := by have := (Array.getElem?_eq_some_iff.1 HX11.out).1; have := HH.out; omega
  have HT := Aside0.mk (TSt.mk (w := w) (below_step HB.out HW.out) hlo hne (after_call HW.out HX7.out) (after_call HW.out HX8.out) (after_call HW.out HX11.out) HZ.out (Kd.R_below HR0.out HW.out) (Kd.R_below HR1.out HW.out) (Kd.R_below HR2'.out HW.out))
  have HRL' := Aside0.mk (Kd.R_lower HRL.out HB.out.size)
  have HRR' := Aside0.mk (Kd.R_lower HRR.out HB.out.size)
  have HKL := Aside0.mk (Kd.R_reads' HRL.out)
  have HKR := Aside0.mk (Kd.R_reads' HRR.out)
  clear hlo hne HH HZ HW HRL HRR HX11 HX7 HX8 HR0 HR1 HR2' HB HZ4 HLO HC1 hS4 p0 p1 p2 p4
  have p0 := (blk_cell HT.out.x11 0).trans (rfl : _ = some (Value.slice A0 B.length c0))
  have p1 := (blk_cell HT.out.x11 1).trans (rfl : _ = some (Value.slice A1 L.length c1))
  have p2 := (blk_cell HT.out.x11 2).trans (rfl : _ = some (Value.slice A2 R.length c2))
  have e1' := (blk_cell HT.out.x12 1).trans (rfl : _ = some (Value.slice A3 lp.length c3))
  have e2' := (blk_cell HT.out.x12 2).trans (rfl : _ = some (Value.slice A4 rp.length c4))
  go_upto_region 7 with (first | (go_at_call 103; (with_reducible refine (chunk_Of.calls k _ _ _ A3 c3 lp A4 c4 rp cs e1 _ HKL.out.2.2 HKL.out.2.1 HKR.out.2.2 HKR.out.2.1 HOF.out).mono ?_); rintro e w8 ⟨v, rfl, hr, hb⟩; obtain ⟨A5, c5, rfl⟩ := Kd.R_slice hr; have HT8 := Aside0.mk (HT.out.call hb); have HRL8 := Aside0.mk (Kd.R_below HRL'.out hb); have HRR8 := Aside0.mk (Kd.R_below HRR'.out hb); have HRC8 := Aside0.mk (Kd.R_lower hr HT.out.bel.size); clear hr hb HT HRL' HRR' HKL HKR p0 p1 p2 e1' e2'; have e3 := (blk_cell HT8.out.x12 3).trans (rfl : _ = some (Value.slice none 0 0)); have f3 := Lib.frozen_of_heap HT8.out.x12 3))
  have HT9 := Aside0.mk (HT8.out.set 3 (.slice A5 cs.length c5) _ rfl)
  have HRL9 := Aside0.mk (Kd.R_set HRL8.out HT8.out.x12 (by decide) 3 (.slice A5 cs.length c5))
  have HRR9 := Aside0.mk (Kd.R_set HRR8.out HT8.out.x12 (by decide) 3 (.slice A5 cs.length c5))
  have HRC9 := Aside0.mk (Kd.R_set HRC8.out HT8.out.x12 (by decide) 3 (.slice A5 cs.length c5))
  clear HT8 HRL8 HRR8 HRC8 e3 f3
  generalize (w8.setCell ⟨b12, 3, none⟩ (.slice A5 cs.length c5)) = w9 at *
  have p0 := (blk_cell HT9.out.x11 0).trans (rfl : _ = some (Value.slice A0 B.length c0))
  have p1 := (blk_cell HT9.out.x11 1).trans (rfl : _ = some (Value.slice A1 L.length c1))
  have p2 := (blk_cell HT9.out.x11 2).trans (rfl : _ = some (Value.slice A2 R.length c2))
  have m0 := (blk_cell HT9.out.x7 0).trans (rfl : _ = some (Value.string g0))
  have m1 := (blk_cell HT9.out.x7 1).trans (rfl : _ = some (Value.string g1))
  have m2 := (blk_cell HT9.out.x7 2).trans (rfl : _ = some (Value.string g2))
  have m3 := (blk_cell HT9.out.x7 3).trans (rfl : _ = some (Value.int .i64 st))
  have m5 := (blk_cell HT9.out.x7 5).trans (rfl : _ = some (Value.int .i64 fv))
  have e3 := (blk_cell HT9.out.x12 3).trans (rfl : _ = some (Value.slice A5 cs.length c5))
  go_upto_region 8 with (first | (go_at_call 104; (with_reducible refine (build_Doc.calls k A0 c0 B A1 c1 L A2 c2 R A5 c5 cs st g0 g1 g2 fv d e2 _ (Kd.R_reads' HT9.out.r0).2.2 (Kd.R_reads' HT9.out.r0).2.1 (Kd.R_reads' HT9.out.r1).2.2 (Kd.R_reads' HT9.out.r1).2.1 (Kd.R_reads' HT9.out.r2).2.2 (Kd.R_reads' HT9.out.r2).2.1 (Kd.R_reads' HRC9.out).2.2 (Kd.R_reads' HRC9.out).2.1 HD.out).mono ?_); rintro e w10 ⟨v, rfl, hr, hb⟩; obtain ⟨A6, c6, rfl⟩ := Kd.R_slice hr; have HT10 := Aside0.mk (HT9.out.call hb); have HRL10 := Aside0.mk (Kd.R_below HRL9.out hb); have HRR10 := Aside0.mk (Kd.R_below HRR9.out hb); have HRC10 := Aside0.mk (Kd.R_below HRC9.out hb); have HRD10 := Aside0.mk (Kd.R_lower hr HT9.out.bel.size); clear hr hb HT9 HRL9 HRR9 HRC9 p0 p1 p2 m0 m1 m2 m3 m5 e3; have e0 := (blk_cell HT10.out.x12 0).trans (rfl : _ = some (Value.slice none 0 0)); have f0 := Lib.frozen_of_heap HT10.out.x12 0))
  have HT11 := Aside0.mk (HT10.out.set 0 (.slice A6 d.length c6) _ rfl)
  have HRL11 := Aside0.mk (Kd.R_set HRL10.out HT10.out.x12 (by decide) 0 (.slice A6 d.length c6))
  have HRR11 := Aside0.mk (Kd.R_set HRR10.out HT10.out.x12 (by decide) 0 (.slice A6 d.length c6))
  have HRC11 := Aside0.mk (Kd.R_set HRC10.out HT10.out.x12 (by decide) 0 (.slice A6 d.length c6))
  have HRD11 := Aside0.mk (Kd.R_set HRD10.out HT10.out.x12 (by decide) 0 (.slice A6 d.length c6))
  clear HT10 HRL10 HRR10 HRC10 HRD10 e0 f0
  generalize (w10.setCell ⟨b12, 0, none⟩ (.slice A6 d.length c6)) = w11 at *
  have e0 := (blk_cell HT11.out.x12 0).trans (rfl : _ = some (Value.slice A6 d.length c6))
  have e5 := (blk_cell HT11.out.x12 5).trans (rfl : _ = some (Value.int .i64 W6))
  go_upto_region 9 with (first | (go_at_call 47; (with_reducible refine (mark_Print.calls k A6 c6 d W6 t e3 _ (Kd.R_reads' HRD11.out).2.2 (Kd.R_reads' HRD11.out).2.1 HP.out).mono ?_); rintro e w12 ⟨rfl, hb⟩; have HT12 := Aside0.mk (HT11.out.call hb); have HRL12 := Aside0.mk (Kd.R_below HRL11.out hb); have HRR12 := Aside0.mk (Kd.R_below HRR11.out hb); have HRC12 := Aside0.mk (Kd.R_below HRC11.out hb); have HRD12 := Aside0.mk (Kd.R_below HRD11.out hb); clear hb HT11 HRL11 HRR11 HRC11 HRD11 e0 e5; have e4 := (blk_cell HT12.out.x12 4).trans (rfl : _ = some (Value.string (⟨#[]⟩ : ByteArray))); have f4 := Lib.frozen_of_heap HT12.out.x12 4))
  have HT13 := Aside0.mk (HT12.out.set 4 (.string t) _ rfl)
  have HRL13 := Aside0.mk (Kd.R_set HRL12.out HT12.out.x12 (by decide) 4 (.string t))
  have HRR13 := Aside0.mk (Kd.R_set HRR12.out HT12.out.x12 (by decide) 4 (.string t))
  have HRC13 := Aside0.mk (Kd.R_set HRC12.out HT12.out.x12 (by decide) 4 (.string t))
  have HRD13 := Aside0.mk (Kd.R_set HRD12.out HT12.out.x12 (by decide) 4 (.string t))
  clear HT12 HRL12 HRR12 HRC12 HRD12 e4 f4
  generalize (w12.setCell ⟨b12, 4, none⟩ (.string t)) = w13 at *
  have p0 := (blk_cell HT13.out.x11 0).trans (rfl : _ = some (Value.slice A0 B.length c0))
  have p1 := (blk_cell HT13.out.x11 1).trans (rfl : _ = some (Value.slice A1 L.length c1))
  have p2 := (blk_cell HT13.out.x11 2).trans (rfl : _ = some (Value.slice A2 R.length c2))
  have e3 := (blk_cell HT13.out.x12 3).trans (rfl : _ = some (Value.slice A5 cs.length c5))
  go_upto_region 10 with (first | (go_at_call 105; (with_reducible refine (build_Count.calls k A0 c0 B A1 c1 L A2 c2 R A5 c5 cs n _ (Kd.R_reads' HT13.out.r0).2.2 (Kd.R_reads' HT13.out.r0).2.1 (Kd.R_reads' HT13.out.r1).2.2 (Kd.R_reads' HT13.out.r1).2.1 (Kd.R_reads' HT13.out.r2).2.2 (Kd.R_reads' HT13.out.r2).2.1 (Kd.R_reads' HRC13.out).2.2 (Kd.R_reads' HRC13.out).2.1 HN.out).mono ?_); rintro e w14 ⟨rfl, hb⟩; have HT14 := Aside0.mk (HT13.out.call hb); have HRL14 := Aside0.mk (Kd.R_below HRL13.out hb); have HRR14 := Aside0.mk (Kd.R_below HRR13.out hb); have HRC14 := Aside0.mk (Kd.R_below HRC13.out hb); have HRD14 := Aside0.mk (Kd.R_below HRD13.out hb); clear hb HT13 HRL13 HRR13 HRC13 HRD13 p0 p1 p2 e3; have e6 := (blk_cell HT14.out.x12 6).trans (rfl : _ = some (Value.int .i64 0)); have f6 := Lib.frozen_of_heap HT14.out.x12 6))
  have HT15 := Aside0.mk (HT14.out.set 6 (.int .i64 n) _ rfl)
  have HRL15 := Aside0.mk (Kd.R_set HRL14.out HT14.out.x12 (by decide) 6 (.int .i64 n))
  have HRR15 := Aside0.mk (Kd.R_set HRR14.out HT14.out.x12 (by decide) 6 (.int .i64 n))
  have HRC15 := Aside0.mk (Kd.R_set HRC14.out HT14.out.x12 (by decide) 6 (.int .i64 n))
  have HRD15 := Aside0.mk (Kd.R_set HRD14.out HT14.out.x12 (by decide) 6 (.int .i64 n))
  clear HT14 HRL14 HRR14 HRC14 HRD14 e6 f6
  generalize (w14.setCell ⟨b12, 6, none⟩ (.int .i64 n)) = w15 at *
  have e0 := (blk_cell HT15.out.x12 0).trans (rfl : _ = some (Value.slice A6 d.length c6))
  have e1 := (blk_cell HT15.out.x12 1).trans (rfl : _ = some (Value.slice A3 lp.length c3))
  have e2 := (blk_cell HT15.out.x12 2).trans (rfl : _ = some (Value.slice A4 rp.length c4))
  have e3 := (blk_cell HT15.out.x12 3).trans (rfl : _ = some (Value.slice A5 cs.length c5))
  have e4 := (blk_cell HT15.out.x12 4).trans (rfl : _ = some (Value.string t))
  have e5 := (blk_cell HT15.out.x12 5).trans (rfl : _ = some (Value.int .i64 W6))
  have e6 := (blk_cell HT15.out.x12 6).trans (rfl : _ = some (Value.int .i64 n))
  obtain ⟨i0, i1, i2, i3, i4, i5, i6, j0, j1, j2, j3, j4, j5, j6⟩ := zero7 HT15.out.x8
  go_wp2
  refine bodyPost_ret (results_ct rfl _ _ (w.heap.size + 1) 80 #[.slice A6 d.length c6, .slice A3 lp.length c3, .slice A4 rp.length c4, .slice A5 cs.length c5, .string t, .int .i64 W6, .int .i64 n] (0, 0) _ rfl (block_set7 HT15.out.x8 _ _ _ _ _ _ _) Try.underlying80 rfl (by kernel_rfl)) rfl ?_
  exact ⟨_, _, _, _, rfl, R_set7 HRD15.out HT15.out.x8 (by decide) _ _ _ _ _ _ _, R_set7 HRL15.out HT15.out.x8 (by decide) _ _ _ _ _ _ _, R_set7 HRR15.out HT15.out.x8 (by decide) _ _ _ _ _ _ _, R_set7 HRC15.out HT15.out.x8 (by decide) _ _ _ _ _ _ _, below_set7 HT15.out.bel (by omega) _ _ _ _ _ _ _⟩
def textsF (k : Nat) (a0 a1 a2 g0 g1 g2 : ByteArray) (st wd fv : Int) : Option (List PP × List SP × List SP × List SC × ByteArray × Int × Int × Int) :=
 if a0.size ≤ 1000000000000 ∧ a1.size ≤ 1000000000000 ∧ a2.size ≤ 1000000000000 then
  (merge_Options_wrong.f k g0 g1 g2 st wd fv ((a0.size : Int) + a1.size + a2.size)).bind fun ec => if ec = 0 then
   (lines_Split.f a0).bind fun B => (lines_Split.f a1).bind fun L => (lines_Split.f a2).bind fun R => (merge_match.f B L).bind fun lp => (merge_match.f B R).bind fun rp => (doc_Width.f k wd [a0, a1, a2]).bind fun W6 =>
    (chunk_Of.f k (B.length : Int) (L.length : Int) (R.length : Int) lp rp).bind fun cs => (build_Doc.f k B L R cs.1 st g0 g1 g2 fv).bind fun d => (mark_Print.f k d.1 W6).bind fun t => (build_Count.f k B L R cs.1).bind fun n => some (d.1, lp, rp, cs.1, t.1, W6, n, 0)
  else some ([], [], [], [], ⟨#[]⟩, 0, 0, ec)
 else none
theorem texts_calls (k : Nat) (a0 a1 a2 g0 g1 g2 : ByteArray) (st wd fv : Int) (r1 : List PP) (r2 r3 : List SP) (r4 : List SC) (r5 : ByteArray) (r6 r7 r8 : Int) (w : World) (h : textsF k a0 a1 a2 g0 g1 g2 st wd fv = some (r1, r2, r3, r4, r5, r6, r7, r8)) :
  Calls Try.prog 58 #[.string a0, .string a1, .string a2, .agg #[.string g0, .string g1, .string g2, .int .i64 st, .int .i64 wd, .int .i64 fv]] w (Texted w r1 r2 r3 r4 r5 r6 r7 r8) := by
 unfold textsF at h
 split at h
 case isFalse => cases h
 case isTrue hs =>
 obtain ⟨ec, hec, h⟩ := Option.bind_eq_some_iff.1 h
 split at h
 ·rename_i h0
  subst h0
  obtain ⟨B, hB, h⟩ := Option.bind_eq_some_iff.1 h
  obtain ⟨L, hL, h⟩ := Option.bind_eq_some_iff.1 h
  obtain ⟨R, hR, h⟩ := Option.bind_eq_some_iff.1 h
  obtain ⟨lp, hlp, h⟩ := Option.bind_eq_some_iff.1 h
  obtain ⟨rp, hrp, h⟩ := Option.bind_eq_some_iff.1 h
  obtain ⟨W6, hW6, h⟩ := Option.bind_eq_some_iff.1 h
  obtain ⟨⟨cs, e1⟩, hcs, h⟩ := Option.bind_eq_some_iff.1 h
  obtain ⟨⟨d, e2⟩, hd, h⟩ := Option.bind_eq_some_iff.1 h
  obtain ⟨⟨t, e3⟩, ht, h⟩ := Option.bind_eq_some_iff.1 h
  obtain ⟨n, hn, h⟩ := Option.bind_eq_some_iff.1 h
  simp only [Option.some.injEq, Prod.mk.injEq] at h
  obtain ⟨rfl, rfl, rfl, rfl, rfl, rfl, rfl, rfl⟩ := h
  exact texts_good k a0 a1 a2 g0 g1 g2 st wd fv W6 e1 e2 e3 n B L R lp rp cs d t w hs hec hB hL hR hlp hrp hW6 hcs hd ht hn
 ·rename_i h0
  simp only [Option.some.injEq, Prod.mk.injEq] at h
  obtain ⟨rfl, rfl, rfl, rfl, rfl, rfl, rfl, rfl⟩ := h
  exact texts_bad k a0 a1 a2 g0 g1 g2 st wd fv ec w hs hec h0
end Go.Proofs.Ytfiamddinkokbaa.F
end

section
set_option linter.unusedVariables false
set_option linter.unusedSimpArgs false
namespace Go.Proofs.Ytfiamddinkokbaa.F
open Go.RowKit Go.Proofs.YtfiamddinkokbaaW.PrintWords Go.Proofs.YtfiamddinkokbaaW.PrintLast Go.Proofs.YtfiamddinkokbaaW.PrintMore
attribute [local go_sem] max2_int min2_int max_two min_two max_three min_three max_four min_four
set_option linter.unusedVariables false
set_option linter.unusedSimpArgs false
end Go.Proofs.Ytfiamddinkokbaa.F
end

section
set_option linter.unusedVariables false
set_option linter.unusedSimpArgs false
namespace Go.Proofs.Ytfiamddinkokbaa.F
open Go.RowKit Go.Proofs.YtfiamddinkokbaaW.PrintWords Go.Proofs.YtfiamddinkokbaaW.PrintLast Go.Proofs.YtfiamddinkokbaaW.PrintMore
attribute [local go_sem] max2_int min2_int max_two min_two max_three min_three max_four min_four
set_option linter.unusedVariables false
set_option linter.unusedSimpArgs false
def merge_Default.f  : Option (ByteArray × ByteArray × ByteArray × Int × Int × Int) := some ((⟨#[]⟩ : ByteArray), (⟨#[]⟩ : ByteArray), (⟨#[]⟩ : ByteArray), 0, 7, 0)
set_option maxHeartbeats 8000000 in
set_option maxRecDepth 100000 in
theorem merge_Default.calls  (r1 : ByteArray) (r2 : ByteArray) (r3 : ByteArray) (r4 : Int) (r5 : Int) (r6 : Int) (w : World) (h : merge_Default.f  = some (r1, r2, r3, r4, r5, r6)) :
  Calls Try.prog 100 #[] w fun e w' => e = .returned (.agg #[.string r1, .string r2, .string r3, .int .i64 r4, .int .i64 r5, .int .i64 r6]) ∧ Below w.heap.size w w' := by
 have hu86 := Try.underlying86
 have HB := Aside0.mk (Below.refl w.heap.size w)
 have H : (some ((⟨#[]⟩ : ByteArray), (⟨#[]⟩ : ByteArray), (⟨#[]⟩ : ByteArray), 0, 7, 0)) = some (r1, r2, r3, r4, r5, r6) := h
 clear h
 simp only [Option.some.injEq, Prod.mk.injEq] at H
 obtain ⟨rfl, rfl, rfl, rfl, rfl, rfl⟩ := H
 go_enter Try.func100, Try.ntmps100
 go_wp2_with (first | ((with_reducible refine gate_dst (N := 0) rfl ?_); refine box_event ?hg (N := 0) ?hd (cs := #[.string (⟨#[]⟩ : ByteArray), .string (⟨#[]⟩ : ByteArray), .string (⟨#[]⟩ : ByteArray), .int .i64 0, .int .i64 0, .int .i64 0]) (t := 86) ?hr ?_; (case hd => rfl); (case hg => rfl); (case hr => first | (go_simp; done) | (go_simp; rfl)); intro gb554 hg w1 hbox hb; have n0_ := Aside0.mk (below_step (by repeat (first | (with_reducible first | exact HB.out | apply below_alloc | apply pw_below_drewN | apply below_drew1) | exact HB.out)) hb); have n1_ := Aside0.mk (hbox); have n2_ := Aside0.mk ((by rw [hg]; exact (below_size (by repeat (first | (with_reducible first | exact HB.out | apply below_alloc | apply pw_below_drewN | apply below_drew1) | exact HB.out))) : w.heap.size ≤ gb554)); have n3_ := Aside0.mk ((by rw [hg]; exact (below_size (by repeat (first | (with_reducible first | exact HB.out | apply below_alloc | apply pw_below_drewN | apply below_drew1) | exact HB.out))) : w.heap.size ≤ gb554)); clear HB; have HB := n0_; have BK554 := n1_; have GW554 := n2_; have GE554 := n3_; clear n0_ n1_ n2_ n3_; clear hb hbox hg; have hcz2_0 : w1.cell? ⟨gb554, 0, none⟩ = some (.string (⟨#[]⟩ : ByteArray)) := (blk_cell BK554.out 0).trans rfl; have hcz2_1 : w1.cell? ⟨gb554, 1, none⟩ = some (.string (⟨#[]⟩ : ByteArray)) := (blk_cell BK554.out 1).trans rfl; have hcz2_2 : w1.cell? ⟨gb554, 2, none⟩ = some (.string (⟨#[]⟩ : ByteArray)) := (blk_cell BK554.out 2).trans rfl; have hcz2_3 : w1.cell? ⟨gb554, 3, none⟩ = some (.int .i64 0) := (blk_cell BK554.out 3).trans rfl; have hcz2_4 : w1.cell? ⟨gb554, 4, none⟩ = some (.int .i64 0) := (blk_cell BK554.out 4).trans rfl; have hcz2_5 : w1.cell? ⟨gb554, 5, none⟩ = some (.int .i64 0) := (blk_cell BK554.out 5).trans rfl; have hfz2_0 := blk_frozen BK554.out 0; have hfz2_1 := blk_frozen BK554.out 1; have hfz2_2 := blk_frozen BK554.out 2; have hfz2_3 := blk_frozen BK554.out 3; have hfz2_4 := blk_frozen BK554.out 4; have hfz2_5 := blk_frozen BK554.out 5))
 refine bodyPost_ret (results_cell_row rfl _ _ gb554 86 #[.string (⟨#[]⟩ : ByteArray), .string (⟨#[]⟩ : ByteArray), .string (⟨#[]⟩ : ByteArray), .int .i64 0, .int .i64 7, .int .i64 0] (0, 0) _ rfl (by (with_reducible repeat (first | refine blk_drewN ?_ _ | refine blk_drew ?_ | refine blk_alloc ?_ _)); refine blk_put (cs := #[.string (⟨#[]⟩ : ByteArray), .string (⟨#[]⟩ : ByteArray), .string (⟨#[]⟩ : ByteArray), .int .i64 0, .int .i64 7, .int .i64 0]) ?_ 5 _ rfl; (with_reducible repeat (first | refine blk_drewN ?_ _ | refine blk_drew ?_ | refine blk_alloc ?_ _)); refine blk_put (cs := #[.string (⟨#[]⟩ : ByteArray), .string (⟨#[]⟩ : ByteArray), .string (⟨#[]⟩ : ByteArray), .int .i64 0, .int .i64 0, .int .i64 0]) ?_ 4 _ rfl; (with_reducible repeat (first | refine blk_drewN ?_ _ | refine blk_drew ?_ | refine blk_alloc ?_ _)); refine blk_put (cs := #[.string (⟨#[]⟩ : ByteArray), .string (⟨#[]⟩ : ByteArray), .string (⟨#[]⟩ : ByteArray), .int .i64 0, .int .i64 0, .int .i64 0]) ?_ 3 _ rfl; (with_reducible repeat (first | refine blk_drewN ?_ _ | refine blk_drew ?_ | refine blk_alloc ?_ _)); refine blk_put (cs := #[.string (⟨#[]⟩ : ByteArray), .string (⟨#[]⟩ : ByteArray), .string (⟨#[]⟩ : ByteArray), .int .i64 0, .int .i64 0, .int .i64 0]) ?_ 2 _ rfl; (with_reducible repeat (first | refine blk_drewN ?_ _ | refine blk_drew ?_ | refine blk_alloc ?_ _)); refine blk_put (cs := #[.string (⟨#[]⟩ : ByteArray), .string (⟨#[]⟩ : ByteArray), .string (⟨#[]⟩ : ByteArray), .int .i64 0, .int .i64 0, .int .i64 0]) ?_ 1 _ rfl; (with_reducible repeat (first | refine blk_drewN ?_ _ | refine blk_drew ?_ | refine blk_alloc ?_ _)); refine blk_put (cs := #[.string (⟨#[]⟩ : ByteArray), .string (⟨#[]⟩ : ByteArray), .string (⟨#[]⟩ : ByteArray), .int .i64 0, .int .i64 0, .int .i64 0]) ?_ 0 _ rfl; (with_reducible repeat (first | refine blk_drewN ?_ _ | refine blk_drew ?_ | refine blk_alloc ?_ _)); exact BK554.out) Try.underlying86 rfl (by kernel_rfl)) rfl ?_
 exact ⟨by first | rfl | (simp [errW_none, errW_some] <;> rfl) | (simp [*, errW_none, errW_some] <;> rfl), by repeat (first | (with_reducible first | exact HB.out | apply below_alloc | apply pw_below_drewN | apply below_drew1 | refine below_set ?_ GE554.out) | exact HB.out)⟩
end Go.Proofs.Ytfiamddinkokbaa.F
end

section
set_option linter.unusedVariables false
set_option linter.unusedSimpArgs false
namespace Go.Proofs.Ytfiamddinkokbaa.F
open Go.RowKit Go.Proofs.YtfiamddinkokbaaW.PrintWords Go.Proofs.YtfiamddinkokbaaW.PrintLast Go.Proofs.YtfiamddinkokbaaW.PrintMore
attribute [local go_sem] max2_int min2_int max_two min_two max_three min_three max_four min_four
set_option linter.unusedVariables false
set_option linter.unusedSimpArgs false
def merge_Result_Clean.f (l0_0 : List (S106)) (l0_1 : List (S196)) (l0_2 : List (S196)) (l0_3 : List (S91)) (a0_4 : ByteArray) (a0_5 : Int) (a0_6 : Int) : Option (Bool) := some (a0_6 == 0)
set_option maxHeartbeats 8000000 in
set_option maxRecDepth 100000 in
theorem merge_Result_Clean.calls (A0_0 : Option Addr) (c0_0 : Nat) (l0_0 : List (S106)) (A0_1 : Option Addr) (c0_1 : Nat) (l0_1 : List (S196)) (A0_2 : Option Addr) (c0_2 : Nat) (l0_2 : List (S196)) (A0_3 : Option Addr) (c0_3 : Nat) (l0_3 : List (S91)) (a0_4 : ByteArray) (a0_5 : Int) (a0_6 : Int) (r : Bool) (w : World) (hr0_0 : Kd.C k106 w A0_0 l0_0.length l0_0) (hc0_0 : l0_0.length ≤ c0_0) (hr0_1 : Kd.C k196 w A0_1 l0_1.length l0_1) (hc0_1 : l0_1.length ≤ c0_1) (hr0_2 : Kd.C k196 w A0_2 l0_2.length l0_2) (hc0_2 : l0_2.length ≤ c0_2) (hr0_3 : Kd.C k91 w A0_3 l0_3.length l0_3) (hc0_3 : l0_3.length ≤ c0_3) (h : merge_Result_Clean.f l0_0 l0_1 l0_2 l0_3 a0_4 a0_5 a0_6 = some r) :
  Calls Try.prog 67 #[.agg #[.slice A0_0 l0_0.length c0_0, .slice A0_1 l0_1.length c0_1, .slice A0_2 l0_2.length c0_2, .slice A0_3 l0_3.length c0_3, .string a0_4, .int .i64 a0_5, .int .i64 a0_6]] w fun e w' => e = .returned (.bool r) ∧ Below w.heap.size w w' := by
 have hu80 := Try.underlying80
 have HR0_0 := Aside0.mk hr0_0
 have HC0_0 := Aside0.mk hc0_0
 clear hr0_0 hc0_0
 have HR0_1 := Aside0.mk hr0_1
 have HC0_1 := Aside0.mk hc0_1
 clear hr0_1 hc0_1
 have HR0_2 := Aside0.mk hr0_2
 have HC0_2 := Aside0.mk hc0_2
 clear hr0_2 hc0_2
 have HR0_3 := Aside0.mk hr0_3
 have HC0_3 := Aside0.mk hc0_3
 clear hr0_3 hc0_3
 have HB := Aside0.mk (Below.refl w.heap.size w)
 have H : (some (a0_6 == 0)) = some r := h
 clear h
 obtain rfl := Option.some.inj H
 go_enter Try.func67, Try.ntmps67
 go_wp2_with (first | ((with_reducible refine gate_dst (N := 1) rfl ?_); refine box_event ?hg (N := 1) ?hd (cs := #[.slice A0_0 l0_0.length c0_0, .slice A0_1 l0_1.length c0_1, .slice A0_2 l0_2.length c0_2, .slice A0_3 l0_3.length c0_3, .string a0_4, .int .i64 a0_5, .int .i64 a0_6]) (t := 80) ?hr ?_; (case hd => rfl); (case hg => rfl); (case hr => first | (go_simp; done) | (go_simp; rfl)); intro gb715 hg w2 hbox hb; have n0_ := Aside0.mk (below_step (by repeat (first | (with_reducible first | exact HB.out | apply below_alloc | apply pw_below_drewN | apply below_drew1) | exact HB.out)) hb); have n1_ := Aside0.mk (hbox); have n2_ := Aside0.mk ((by rw [hg]; exact (below_size (by repeat (first | (with_reducible first | exact HB.out | apply below_alloc | apply pw_below_drewN | apply below_drew1) | exact HB.out))) : w.heap.size ≤ gb715)); have n3_ := Aside0.mk ((by rw [hg]; exact (below_size (by repeat (first | (with_reducible first | exact HB.out | apply below_alloc | apply pw_below_drewN | apply below_drew1) | exact HB.out))) : w.heap.size ≤ gb715)); clear HB; have HB := n0_; have BK715 := n1_; have GW715 := n2_; have GE715 := n3_; clear n0_ n1_ n2_ n3_; clear hb hbox hg; have hcz3_0 : w2.cell? ⟨gb715, 0, none⟩ = some (.slice A0_0 l0_0.length c0_0) := (blk_cell BK715.out 0).trans rfl; have hcz3_1 : w2.cell? ⟨gb715, 1, none⟩ = some (.slice A0_1 l0_1.length c0_1) := (blk_cell BK715.out 1).trans rfl; have hcz3_2 : w2.cell? ⟨gb715, 2, none⟩ = some (.slice A0_2 l0_2.length c0_2) := (blk_cell BK715.out 2).trans rfl; have hcz3_3 : w2.cell? ⟨gb715, 3, none⟩ = some (.slice A0_3 l0_3.length c0_3) := (blk_cell BK715.out 3).trans rfl; have hcz3_4 : w2.cell? ⟨gb715, 4, none⟩ = some (.string a0_4) := (blk_cell BK715.out 4).trans rfl; have hcz3_5 : w2.cell? ⟨gb715, 5, none⟩ = some (.int .i64 a0_5) := (blk_cell BK715.out 5).trans rfl; have hcz3_6 : w2.cell? ⟨gb715, 6, none⟩ = some (.int .i64 a0_6) := (blk_cell BK715.out 6).trans rfl; have hfz3_0 := blk_frozen BK715.out 0; have hfz3_1 := blk_frozen BK715.out 1; have hfz3_2 := blk_frozen BK715.out 2; have hfz3_3 := blk_frozen BK715.out 3; have hfz3_4 := blk_frozen BK715.out 4; have hfz3_5 := blk_frozen BK715.out 5; have hfz3_6 := blk_frozen BK715.out 6))
 go_ret
 exact ⟨by first | rfl | (simp [errW_none, errW_some] <;> rfl) | (simp [*, errW_none, errW_some] <;> rfl), by repeat (first | (with_reducible first | exact HB.out | apply below_alloc | apply pw_below_drewN | apply below_drew1 | refine below_set ?_ GE715.out) | exact HB.out)⟩
end Go.Proofs.Ytfiamddinkokbaa.F
end

section
set_option linter.unusedVariables false
set_option linter.unusedSimpArgs false
namespace Go.Proofs.Ytfiamddinkokbaa.F
open Go.RowKit Go.Shelf Go.Proofs.YtfiamddinkokbaaW.PrintWords
set_option linter.unusedVariables false
set_option linter.unusedSimpArgs false
def toldA : ByteArray := ⟨#[97, 10, 98, 10]⟩
def toldB : ByteArray := ⟨#[97, 10, 120, 10]⟩
def toldC : ByteArray := ⟨#[97, 10, 121, 10]⟩
def toldT : List UInt8 := [97, 10, 60, 60, 60, 60, 60, 60, 60, 10, 120, 10, 61, 61, 61, 61, 61, 61, 61, 10, 121, 10, 62, 62, 62, 62, 62, 62, 62, 10]
theorem told12_facts : ((textsF 60 toldA toldB toldC ⟨#[]⟩ ⟨#[]⟩ ⟨#[]⟩ 0 7 0).bind fun r => (doc_Doc_Conflicts.f 60 r.1).bind fun n => some (r.2.2.2.2.1.data.toList == toldT, r.2.2.2.2.2.1 == 7, r.2.2.2.2.2.2.1 == 1, r.2.2.2.2.2.2.2 == 0, n == 1)) = some (true, true, true, true, true) := by decide +kernel
theorem told12_ex : ∃ d lp rp cs t, textsF 60 toldA toldB toldC ⟨#[]⟩ ⟨#[]⟩ ⟨#[]⟩ 0 7 0 = some (d, lp, rp, cs, t, 7, 1, 0) ∧ t.data.toList = toldT ∧ doc_Doc_Conflicts.f 60 d = some 1 := by
 obtain ⟨⟨d, lp, rp, cs, t, w, n, e⟩, h, h2⟩ := Option.bind_eq_some_iff.1 told12_facts
 obtain ⟨m, h3, h4⟩ := Option.bind_eq_some_iff.1 h2
 simp only [Option.some.injEq, Prod.mk.injEq, beq_iff_eq] at h4
 obtain ⟨h5, rfl, rfl, rfl, rfl⟩ := h4
 exact ⟨d, lp, rp, cs, t, h, h5, h3⟩
set_option maxHeartbeats 8000000 in
set_option maxRecDepth 100000 in
theorem told12_calls (w : World) : Calls Try.prog 69 #[] w fun e w' => e = .returned (.bool true) ∧ Below w.heap.size w w' := by
 obtain ⟨d, lp, rp, cs, t, h1, h2, h3⟩ := told12_ex
 have HT := Aside0.mk (fun W => texts_calls 60 toldA toldB toldC ⟨#[]⟩ ⟨#[]⟩ ⟨#[]⟩ 0 7 0 d lp rp cs t 7 1 0 W h1)
 unfold toldA toldB toldC at HT
 have hd : merge_Default.f = some (⟨#[]⟩, ⟨#[]⟩, ⟨#[]⟩, 0, 7, 0) := rfl
 have HD := Aside0.mk (fun W => merge_Default.calls ⟨#[]⟩ ⟨#[]⟩ ⟨#[]⟩ 0 7 0 W hd)
 have qt : t = ⟨#[97, 10, 60, 60, 60, 60, 60, 60, 60, 10, 120, 10, 61, 61, 61, 61, 61, 61, 61, 10, 121, 10, 62, 62, 62, 62, 62, 62, 62, 10]⟩ := by
  rw [← toB_data t, h2]; rfl
 have H3 := Aside0.mk h3
 subst qt
 clear h1 h2 h3 hd
 go_enter Try.func69, Try.ntmps69
 go_wp2_with (first
  | (go_at_call 100; (with_reducible refine (HD.out _).mono ?_); rintro e w1 ⟨rfl, hb⟩; have HB := Aside0.mk hb; clear hb)
  | (go_at_call 58; (with_reducible refine (HT.out _).mono ?_); rintro e w2 ⟨v0, v1, v2, v3, rfl, r0, r1, r2, r3, hb⟩; obtain ⟨A0, c0, rfl, l0, C0⟩ := Kd.R_reads r0; obtain ⟨A1, c1, rfl, l1, C1⟩ := Kd.R_reads r1; obtain ⟨A2, c2, rfl, l2, C2⟩ := Kd.R_reads r2; obtain ⟨A3, c3, rfl, l3, C3⟩ := Kd.R_reads r3; have HB2 := Aside0.mk (below_step HB.out hb); have H0 := Aside0.mk (And.intro l0 C0); have H1 := Aside0.mk (And.intro l1 C1); have H2 := Aside0.mk (And.intro l2 C2); have HC3 := Aside0.mk (And.intro l3 C3); clear r0 r1 r2 r3 hb l0 C0 l1 C1 l2 C2 l3 C3)
  | (go_at_call 67; (refine (merge_Result_Clean.calls A0 c0 d A1 c1 lp A2 c2 rp A3 c3 cs _ 7 1 false _ (Kd.C_alloc H0.out.2 _) H0.out.1 (Kd.C_alloc H1.out.2 _) H1.out.1 (Kd.C_alloc H2.out.2 _) H2.out.1 (Kd.C_alloc HC3.out.2 _) HC3.out.1 rfl).mono ?_); rintro e w3 ⟨rfl, hb⟩; have HB3 := Aside0.mk (below_step (below_alloc HB2.out _) hb); have HX3 := after_alloc hb; have e0 := (blk_cell HX3 0).trans (rfl : _ = some (Value.slice A0 d.length c0)); have e5 := (blk_cell HX3 5).trans (rfl : _ = some (Value.int .i64 7)); have HX := Aside0.mk HX3; have HD3 := Aside0.mk (Kd.C_below (Kd.C_alloc H0.out.2 _) hb); clear hb HX3)
  | (go_at_call 65; (with_reducible refine (doc_Doc_Conflicts.calls 60 A0 c0 d 1 _ HD3.out H0.out.1 H3.out).mono ?_); rintro e w4 ⟨rfl, hb⟩; have HB4 := Aside0.mk (below_step HB3.out hb); have e5' := (blk_cell (after_call hb HX.out) 5).trans (rfl : _ = some (Value.int .i64 7)); clear hb))
 go_ret
 exact ⟨rfl, HB4.out⟩
end Go.Proofs.Ytfiamddinkokbaa.F
end

section
set_option linter.unusedVariables false
set_option linter.unusedSimpArgs false
namespace Go.Proofs.Ytfiamddinkokbaa.F
open Go.RowKit Go.Proofs.YtfiamddinkokbaaW.PrintWords Go.Proofs.YtfiamddinkokbaaW.PrintLast Go.Proofs.YtfiamddinkokbaaW.PrintMore
attribute [local go_sem] max2_int min2_int max_two min_two max_three min_three max_four min_four
set_option linter.unusedVariables false
set_option linter.unusedSimpArgs false
end Go.Proofs.Ytfiamddinkokbaa.F
end

section
set_option linter.unusedVariables false
set_option linter.unusedSimpArgs false
namespace Go.Proofs.Ytfiamddinkokbaa.F
open Go.RowKit Go.Proofs.YtfiamddinkokbaaW.PrintWords Go.Proofs.YtfiamddinkokbaaW.PrintLast Go.Proofs.YtfiamddinkokbaaW.PrintMore
attribute [local go_sem] max2_int min2_int max_two min_two max_three min_three max_four min_four
set_option linter.unusedVariables false
set_option linter.unusedSimpArgs false
def tripartitelaw12_labels.f (a0_0 : Int) (a0_1 : Int) (a0_2 : Int) (a0_3 : ByteArray) (a0_4 : ByteArray) (a0_5 : ByteArray) : Option (ByteArray × ByteArray × ByteArray × Bool × ByteArray × ByteArray × ByteArray × ByteArray × Bool) := some (a0_3, a0_4, a0_5, false, (⟨#[]⟩ : ByteArray), (⟨#[]⟩ : ByteArray), (⟨#[]⟩ : ByteArray), (⟨#[]⟩ : ByteArray), false)
set_option maxHeartbeats 8000000 in
set_option maxRecDepth 100000 in
theorem tripartitelaw12_labels.calls (a0_0 : Int) (a0_1 : Int) (a0_2 : Int) (a0_3 : ByteArray) (a0_4 : ByteArray) (a0_5 : ByteArray) (r1 : ByteArray) (r2 : ByteArray) (r3 : ByteArray) (r4 : Bool) (r5 : ByteArray) (r6 : ByteArray) (r7 : ByteArray) (r8 : ByteArray) (r9 : Bool) (w : World) (h : tripartitelaw12_labels.f a0_0 a0_1 a0_2 a0_3 a0_4 a0_5 = some (r1, r2, r3, r4, r5, r6, r7, r8, r9)) :
  Calls Try.prog 106 #[.agg #[.int .i64 a0_0, .int .i64 a0_1, .int .i64 a0_2, .string a0_3, .string a0_4, .string a0_5]] w fun e w' => e = .returned (.agg #[.string r1, .string r2, .string r3, .bool r4, .string r5, .string r6, .string r7, .string r8, .bool r9]) ∧ Below w.heap.size w w' := by
 have hu74 := Try.underlying74
 have hu109 := Try.underlying109
 have HB := Aside0.mk (Below.refl w.heap.size w)
 have H : (some (a0_3, a0_4, a0_5, false, (⟨#[]⟩ : ByteArray), (⟨#[]⟩ : ByteArray), (⟨#[]⟩ : ByteArray), (⟨#[]⟩ : ByteArray), false)) = some (r1, r2, r3, r4, r5, r6, r7, r8, r9) := h
 clear h
 simp only [Option.some.injEq, Prod.mk.injEq] at H
 obtain ⟨rfl, rfl, rfl, rfl, rfl, rfl, rfl, rfl, rfl⟩ := H
 go_enter Try.func106, Try.ntmps106
 go_wp2_with (first | ((with_reducible refine gate_dst (N := 1) rfl ?_); refine box_event ?hg (N := 1) ?hd (cs := #[.int .i64 a0_0, .int .i64 a0_1, .int .i64 a0_2, .string a0_3, .string a0_4, .string a0_5]) (t := 74) ?hr ?_; (case hd => rfl); (case hg => rfl); (case hr => first | (go_simp; done) | (go_simp; rfl)); intro gb578 hg w2 hbox hb; have n0_ := Aside0.mk (below_step (by repeat (first | (with_reducible first | exact HB.out | apply below_alloc | apply pw_below_drewN | apply below_drew1) | exact HB.out)) hb); have n1_ := Aside0.mk (hbox); have n2_ := Aside0.mk ((by rw [hg]; exact (below_size (by repeat (first | (with_reducible first | exact HB.out | apply below_alloc | apply pw_below_drewN | apply below_drew1) | exact HB.out))) : w.heap.size ≤ gb578)); have n3_ := Aside0.mk ((by rw [hg]; exact (below_size (by repeat (first | (with_reducible first | exact HB.out | apply below_alloc | apply pw_below_drewN | apply below_drew1) | exact HB.out))) : w.heap.size ≤ gb578)); clear HB; have HB := n0_; have BK578 := n1_; have GW578 := n2_; have GE578 := n3_; clear n0_ n1_ n2_ n3_; clear hb hbox hg) | ((with_reducible refine gate_dst (N := 2) rfl ?_); refine box_event ?hg (N := 2) ?hd (cs := #[.string (⟨#[]⟩ : ByteArray), .string (⟨#[]⟩ : ByteArray), .string (⟨#[]⟩ : ByteArray), .bool false, .string (⟨#[]⟩ : ByteArray), .string (⟨#[]⟩ : ByteArray), .string (⟨#[]⟩ : ByteArray), .string (⟨#[]⟩ : ByteArray), .bool false]) (t := 109) ?hr ?_; (case hd => rfl); (case hg => rfl); (case hr => first | (go_simp; done) | (go_simp; rfl)); intro gb579 hg w3 hbox hb; have n0_ := Aside0.mk (blk_below (g := gb578) (o := .cells #[.int .i64 a0_0, .int .i64 a0_1, .int .i64 a0_2, .string a0_3, .string a0_4, .string a0_5] 74 (0, 0)) (by (with_reducible repeat (first | refine blk_drewN ?_ _ | refine blk_drew ?_ | refine blk_alloc ?_ _)); exact BK578.out) hb); have n1_ := Aside0.mk (below_step (by repeat (first | (with_reducible first | exact HB.out | apply below_alloc | apply pw_below_drewN | apply below_drew1 | refine below_set ?_ GE578.out) | exact HB.out)) hb); have n2_ := Aside0.mk (hbox); have n3_ := Aside0.mk ((by rw [hg]; exact (below_size (by repeat (first | (with_reducible first | exact HB.out | apply below_alloc | apply pw_below_drewN | apply below_drew1 | refine below_set ?_ GE578.out) | exact HB.out))) : w.heap.size ≤ gb579)); have n4_ := Aside0.mk ((by rw [hg]; exact (below_size (by repeat (first | (with_reducible first | exact HB.out | apply below_alloc | apply pw_below_drewN | apply below_drew1 | refine below_set ?_ GE578.out) | exact HB.out))) : w.heap.size ≤ gb579)); have n5_ := Aside0.mk ((by rw [hg]; exact Nat.ne_of_lt (blk_lt (g := gb578) (o := .cells #[.int .i64 a0_0, .int .i64 a0_1, .int .i64 a0_2, .string a0_3, .string a0_4, .string a0_5] 74 (0, 0)) (by (with_reducible repeat (first | refine blk_drewN ?_ _ | refine blk_drew ?_ | refine blk_alloc ?_ _)); exact BK578.out)) : gb578 ≠ gb579)); have n6_ := Aside0.mk ((by rw [hg]; exact Nat.ne_of_gt (blk_lt (g := gb578) (o := .cells #[.int .i64 a0_0, .int .i64 a0_1, .int .i64 a0_2, .string a0_3, .string a0_4, .string a0_5] 74 (0, 0)) (by (with_reducible repeat (first | refine blk_drewN ?_ _ | refine blk_drew ?_ | refine blk_alloc ?_ _)); exact BK578.out)) : gb579 ≠ gb578)); clear BK578; clear HB; have BK578 := n0_; have HB := n1_; have BK579 := n2_; have GW579 := n3_; have GE579 := n4_; have NB578_579 := n5_; have NB579_578 := n6_; clear n0_ n1_ n2_ n3_ n4_ n5_ n6_; clear hb hbox hg; have hnb4 := NB578_579.out; have hnc4 := NB579_578.out; have hcz5_0 : w3.cell? ⟨gb578, 0, none⟩ = some (.int .i64 a0_0) := (blk_cell BK578.out 0).trans rfl; have hcz5_1 : w3.cell? ⟨gb578, 1, none⟩ = some (.int .i64 a0_1) := (blk_cell BK578.out 1).trans rfl; have hcz5_2 : w3.cell? ⟨gb578, 2, none⟩ = some (.int .i64 a0_2) := (blk_cell BK578.out 2).trans rfl; have hcz5_3 : w3.cell? ⟨gb578, 3, none⟩ = some (.string a0_3) := (blk_cell BK578.out 3).trans rfl; have hcz5_4 : w3.cell? ⟨gb578, 4, none⟩ = some (.string a0_4) := (blk_cell BK578.out 4).trans rfl; have hcz5_5 : w3.cell? ⟨gb578, 5, none⟩ = some (.string a0_5) := (blk_cell BK578.out 5).trans rfl; have hfz5_0 := blk_frozen BK578.out 0; have hfz5_1 := blk_frozen BK578.out 1; have hfz5_2 := blk_frozen BK578.out 2; have hfz5_3 := blk_frozen BK578.out 3; have hfz5_4 := blk_frozen BK578.out 4; have hfz5_5 := blk_frozen BK578.out 5; have hcz6_0 : w3.cell? ⟨gb579, 0, none⟩ = some (.string (⟨#[]⟩ : ByteArray)) := (blk_cell BK579.out 0).trans rfl; have hcz6_1 : w3.cell? ⟨gb579, 1, none⟩ = some (.string (⟨#[]⟩ : ByteArray)) := (blk_cell BK579.out 1).trans rfl; have hcz6_2 : w3.cell? ⟨gb579, 2, none⟩ = some (.string (⟨#[]⟩ : ByteArray)) := (blk_cell BK579.out 2).trans rfl; have hcz6_3 : w3.cell? ⟨gb579, 3, none⟩ = some (.bool false) := (blk_cell BK579.out 3).trans rfl; have hcz6_4 : w3.cell? ⟨gb579, 4, none⟩ = some (.string (⟨#[]⟩ : ByteArray)) := (blk_cell BK579.out 4).trans rfl; have hcz6_5 : w3.cell? ⟨gb579, 5, none⟩ = some (.string (⟨#[]⟩ : ByteArray)) := (blk_cell BK579.out 5).trans rfl; have hcz6_6 : w3.cell? ⟨gb579, 6, none⟩ = some (.string (⟨#[]⟩ : ByteArray)) := (blk_cell BK579.out 6).trans rfl; have hcz6_7 : w3.cell? ⟨gb579, 7, none⟩ = some (.string (⟨#[]⟩ : ByteArray)) := (blk_cell BK579.out 7).trans rfl; have hcz6_8 : w3.cell? ⟨gb579, 8, none⟩ = some (.bool false) := (blk_cell BK579.out 8).trans rfl; have hfz6_0 := blk_frozen BK579.out 0; have hfz6_1 := blk_frozen BK579.out 1; have hfz6_2 := blk_frozen BK579.out 2; have hfz6_3 := blk_frozen BK579.out 3; have hfz6_4 := blk_frozen BK579.out 4; have hfz6_5 := blk_frozen BK579.out 5; have hfz6_6 := blk_frozen BK579.out 6; have hfz6_7 := blk_frozen BK579.out 7; have hfz6_8 := blk_frozen BK579.out 8))
 refine bodyPost_ret (results_cell_row rfl _ _ gb579 109 #[.string a0_3, .string a0_4, .string a0_5, .bool false, .string (⟨#[]⟩ : ByteArray), .string (⟨#[]⟩ : ByteArray), .string (⟨#[]⟩ : ByteArray), .string (⟨#[]⟩ : ByteArray), .bool false] (0, 0) _ rfl (by (with_reducible repeat (first | refine blk_drewN ?_ _ | refine blk_drew ?_ | refine blk_alloc ?_ _)); refine blk_put (cs := #[.string a0_3, .string a0_4, .string a0_5, .bool false, .string (⟨#[]⟩ : ByteArray), .string (⟨#[]⟩ : ByteArray), .string (⟨#[]⟩ : ByteArray), .string (⟨#[]⟩ : ByteArray), .bool false]) ?_ 8 _ rfl; (with_reducible repeat (first | refine blk_drewN ?_ _ | refine blk_drew ?_ | refine blk_alloc ?_ _)); refine blk_put (cs := #[.string a0_3, .string a0_4, .string a0_5, .bool false, .string (⟨#[]⟩ : ByteArray), .string (⟨#[]⟩ : ByteArray), .string (⟨#[]⟩ : ByteArray), .string (⟨#[]⟩ : ByteArray), .bool false]) ?_ 7 _ rfl; (with_reducible repeat (first | refine blk_drewN ?_ _ | refine blk_drew ?_ | refine blk_alloc ?_ _)); refine blk_put (cs := #[.string a0_3, .string a0_4, .string a0_5, .bool false, .string (⟨#[]⟩ : ByteArray), .string (⟨#[]⟩ : ByteArray), .string (⟨#[]⟩ : ByteArray), .string (⟨#[]⟩ : ByteArray), .bool false]) ?_ 6 _ rfl; (with_reducible repeat (first | refine blk_drewN ?_ _ | refine blk_drew ?_ | refine blk_alloc ?_ _)); refine blk_put (cs := #[.string a0_3, .string a0_4, .string a0_5, .bool false, .string (⟨#[]⟩ : ByteArray), .string (⟨#[]⟩ : ByteArray), .string (⟨#[]⟩ : ByteArray), .string (⟨#[]⟩ : ByteArray), .bool false]) ?_ 5 _ rfl; (with_reducible repeat (first | refine blk_drewN ?_ _ | refine blk_drew ?_ | refine blk_alloc ?_ _)); refine blk_put (cs := #[.string a0_3, .string a0_4, .string a0_5, .bool false, .string (⟨#[]⟩ : ByteArray), .string (⟨#[]⟩ : ByteArray), .string (⟨#[]⟩ : ByteArray), .string (⟨#[]⟩ : ByteArray), .bool false]) ?_ 4 _ rfl; (with_reducible repeat (first | refine blk_drewN ?_ _ | refine blk_drew ?_ | refine blk_alloc ?_ _)); refine blk_put (cs := #[.string a0_3, .string a0_4, .string a0_5, .bool false, .string (⟨#[]⟩ : ByteArray), .string (⟨#[]⟩ : ByteArray), .string (⟨#[]⟩ : ByteArray), .string (⟨#[]⟩ : ByteArray), .bool false]) ?_ 3 _ rfl; (with_reducible repeat (first | refine blk_drewN ?_ _ | refine blk_drew ?_ | refine blk_alloc ?_ _)); refine blk_put (cs := #[.string a0_3, .string a0_4, .string (⟨#[]⟩ : ByteArray), .bool false, .string (⟨#[]⟩ : ByteArray), .string (⟨#[]⟩ : ByteArray), .string (⟨#[]⟩ : ByteArray), .string (⟨#[]⟩ : ByteArray), .bool false]) ?_ 2 _ rfl; (with_reducible repeat (first | refine blk_drewN ?_ _ | refine blk_drew ?_ | refine blk_alloc ?_ _)); refine blk_put (cs := #[.string a0_3, .string (⟨#[]⟩ : ByteArray), .string (⟨#[]⟩ : ByteArray), .bool false, .string (⟨#[]⟩ : ByteArray), .string (⟨#[]⟩ : ByteArray), .string (⟨#[]⟩ : ByteArray), .string (⟨#[]⟩ : ByteArray), .bool false]) ?_ 1 _ rfl; (with_reducible repeat (first | refine blk_drewN ?_ _ | refine blk_drew ?_ | refine blk_alloc ?_ _)); refine blk_put (cs := #[.string (⟨#[]⟩ : ByteArray), .string (⟨#[]⟩ : ByteArray), .string (⟨#[]⟩ : ByteArray), .bool false, .string (⟨#[]⟩ : ByteArray), .string (⟨#[]⟩ : ByteArray), .string (⟨#[]⟩ : ByteArray), .string (⟨#[]⟩ : ByteArray), .bool false]) ?_ 0 _ rfl; (with_reducible repeat (first | refine blk_drewN ?_ _ | refine blk_drew ?_ | refine blk_alloc ?_ _)); exact BK579.out) Try.underlying109 rfl (by kernel_rfl)) rfl ?_
 exact ⟨by first | rfl | (simp [errW_none, errW_some] <;> rfl) | (simp [*, errW_none, errW_some] <;> rfl), by repeat (first | (with_reducible first | exact HB.out | apply below_alloc | apply pw_below_drewN | apply below_drew1 | refine below_set ?_ GE578.out | refine below_set ?_ GE579.out) | exact HB.out)⟩
end Go.Proofs.Ytfiamddinkokbaa.F
end

section
set_option linter.unusedVariables false
set_option linter.unusedSimpArgs false
namespace Go.Proofs.Ytfiamddinkokbaa.F
open Go.RowKit Go.Proofs.YtfiamddinkokbaaW.PrintWords Go.Proofs.YtfiamddinkokbaaW.PrintLast Go.Proofs.YtfiamddinkokbaaW.PrintMore
attribute [local go_sem] max2_int min2_int max_two min_two max_three min_three max_four min_four
set_option linter.unusedVariables false
set_option linter.unusedSimpArgs false
def tripartitelaw12_bare.l0 : Nat → ByteArray → Int → Option (ByteArray)
 | 0, _, _ => none
 | k + 1, x0, x3 => if x3 < (x0.size : Int) then (if 0 ≤ x3 then (if (bt x0 x3) = 10 then (if x3 ≤ (x0.size : Int) then (some (x0.extract 0 (x3 : Int).toNat)) else (none)) else (tripartitelaw12_bare.l0 k x0 (wrap64 (x3 + 1)))) else (none)) else (some x0)
def tripartitelaw12_bare.f (k : Nat) (a0 : ByteArray) : Option (ByteArray) := tripartitelaw12_bare.l0 k a0 0
theorem tripartitelaw12_bare.mono_l : ∀ k, (∀ y0 y1, LeO (tripartitelaw12_bare.l0 k y0 y1) (tripartitelaw12_bare.l0 (k + 1) y0 y1))
 | 0 => fun _ _ r h => by simp [tripartitelaw12_bare.l0] at h
 | k + 1 => by
  have ih0 := tripartitelaw12_bare.mono_l k
  ·intro y0 y1
   unfold tripartitelaw12_bare.l0
   repeat' first
   | (with_reducible exact ih0 _ _)
   | (with_reducible exact LeO.refl _)
   | (with_reducible exact LeO.none _)
   | (with_reducible refine LeO.ite ?_ ?_)
   | (with_reducible refine LeO.bind ?_ (fun _ => ?_))
   | exact ih0 _ _
   | exact LeO.none _
   | refine LeO.ite ?_ ?_
   | refine LeO.bind ?_ (fun _ => ?_)
theorem tripartitelaw12_bare.mono : ∀ a0 k, LeO (tripartitelaw12_bare.f k a0) (tripartitelaw12_bare.f (k + 1) a0) := by
 intro a0 k
 have ih0 := tripartitelaw12_bare.mono_l k
 unfold tripartitelaw12_bare.f
 repeat' first
   | (with_reducible exact ih0 _ _)
   | (with_reducible exact LeO.refl _)
   | (with_reducible exact LeO.none _)
   | (with_reducible refine LeO.ite ?_ ?_)
   | (with_reducible refine LeO.bind ?_ (fun _ => ?_))
   | exact ih0 _ _
   | exact LeO.none _
   | refine LeO.ite ?_ ?_
   | refine LeO.bind ?_ (fun _ => ?_)
set_option maxHeartbeats 8000000 in
set_option maxRecDepth 100000 in
theorem tripartitelaw12_bare.calls (k : Nat) (a0 : ByteArray) (r : ByteArray) (w : World) (h : tripartitelaw12_bare.f k a0 = some r) :
  Calls Try.prog 107 #[.string a0] w fun e w' => e = .returned (.string r) ∧ Drawn0 w w' := by
 have H : (tripartitelaw12_bare.l0 k a0 0) = some r := h
 clear h
 have H' := Aside0.mk H
 clear H
 go_enter Try.func107, Try.ntmps107
 go_wp2
 go_loopg [3] k (fun kq v3 w' => ∃ (x3_1 : Int), v3 = .int .i64 x3_1 ∧ Aside0 (tripartitelaw12_bare.l0 kq a0 x3_1 = some r) ∧ Aside0 (kq ≤ k) ∧ Drawn0 w w')
 case atStart => exact ⟨(0), (by first | rfl | (simp; done) | (simp [*]; done)), H', ⟨Nat.le_refl _⟩, by repeat (first | exact Drawn0.refl _ | apply Drawn0.step)⟩
 case round =>
  clear H'
  try clear c1
  obtain ⟨x3_1, rfl, HA, HK1, ⟨m1, rfl⟩⟩ := hrel
  cases gk with
  | zero => exact absurd HA.out (by simp [tripartitelaw12_bare.l0])
  | succ k1 =>
   have H := HA.out
   clear HA
   simp only [tripartitelaw12_bare.l0] at H
   by_cases c2 : x3_1 < (a0.size : Int)
   ·rw [if_pos c2] at H
    have c2b0 : decide (x3_1 < (a0.size : Int)) = true := decide_eq_true c2
    clear c2
    by_cases c3 : 0 ≤ x3_1
    ·rw [if_pos c3] at H
     have c3b0 : decide (0 ≤ x3_1) = true := decide_eq_true c3
     clear c3
     by_cases c5 : (bt a0 x3_1) = 10
     ·rw [if_pos c5] at H
      have c5b0 : ((bt a0 x3_1) == 10) = true := beq_iff_eq.mpr c5
      have c5b1 : ((bt a0 x3_1) != 10) = false := bne_eq_false_iff_eq.mpr c5
      clear c5
      have c6b0 := eq_true (of_decide_eq_true (by first | (with_reducible assumption) | assumption) : 0 ≤ x3_1)
      by_cases c7 : x3_1 ≤ (a0.size : Int)
      ·rw [if_pos c7] at H
       have c7b0 := eq_true c7
       have c7b1 : decide (x3_1 ≤ (a0.size : Int)) = true := decide_eq_true c7
       clear c7
       obtain rfl := Option.some.inj H
       have p4 : 0 ≤ (x3_1 : Int) := of_decide_eq_true (by first | (with_reducible assumption) | assumption)
       have q4 : x3_1 < (a0.size : Int) := of_decide_eq_true (by first | (with_reducible assumption) | assumption)
       have hx4 := bt_at a0 x3_1
       replace p4 := eq_true p4
       replace q4 := eq_true q4
       go_wp2
       go_ret
       exact ⟨by first | rfl | (simp; done) | (simp [*]; done), by repeat (first | exact Drawn0.refl _ | apply Drawn0.step)⟩
      ·rw [if_neg c7] at H
       exact absurd H (by simp)
     ·rw [if_neg c5] at H
      have c5b0 : ((bt a0 x3_1) == 10) = false := beq_eq_false_iff_ne.mpr c5
      have c5b1 : ((bt a0 x3_1) != 10) = true := bne_iff_ne.mpr c5
      have H' := Aside0.mk H
      clear H
      have p4 : 0 ≤ (x3_1 : Int) := of_decide_eq_true (by first | (with_reducible assumption) | assumption)
      have q4 : x3_1 < (a0.size : Int) := of_decide_eq_true (by first | (with_reducible assumption) | assumption)
      have hx4 := bt_at a0 x3_1
      replace p4 := eq_true p4
      replace q4 := eq_true q4
      go_wp2
      go_roundg k1
      case measure => have := HK1.out; omega
      case rel => exact ⟨(wrap64 (x3_1 + 1)), (by first | rfl | (simp; done) | (simp [*]; done)), H', ⟨by have := HK1.out; omega⟩, by repeat (first | exact Drawn0.refl _ | apply Drawn0.step)⟩
    ·rw [if_neg c3] at H
     exact absurd H (by simp)
   ·rw [if_neg c2] at H
    have c2b0 : decide (x3_1 < (a0.size : Int)) = false := decide_eq_false c2
    clear c2
    obtain rfl := Option.some.inj H
    go_wp2
    go_ret
    exact ⟨by first | rfl | (simp; done) | (simp [*]; done), by repeat (first | exact Drawn0.refl _ | apply Drawn0.step)⟩
end Go.Proofs.Ytfiamddinkokbaa.F
end

section
set_option linter.unusedVariables false
set_option linter.unusedSimpArgs false
namespace Go.Proofs.Ytfiamddinkokbaa.F
open Go.RowKit Go.Proofs.YtfiamddinkokbaaW.PrintWords Go.Proofs.YtfiamddinkokbaaW.PrintLast Go.Proofs.YtfiamddinkokbaaW.PrintMore
attribute [local go_sem] max2_int min2_int max_two min_two max_three min_three max_four min_four
set_option linter.unusedVariables false
set_option linter.unusedSimpArgs false
def tripartitelaw12_Options.f (k : Nat) (a0_0 : Int) (a0_1 : Int) (a0_2 : Int) (a0_3 : ByteArray) (a0_4 : ByteArray) (a0_5 : ByteArray) : Option (ByteArray × ByteArray × ByteArray × Int × Int × Int) := (tripartitelaw12_labels.f a0_0 a0_1 a0_2 a0_3 a0_4 a0_5).bind fun bt582 => ((tripartitelaw12_bare.f k bt582.1).bind fun t592 => ((tripartitelaw12_bare.f k bt582.2.1).bind fun t593 => ((tripartitelaw12_bare.f k bt582.2.2.1).bind fun t594 => (some (t592, t593, t594, wrap64 (Int.tmod (IntKind.u64.wrap (a0_0)) 3), wrap64 (7 + (wrap64 (Int.tmod (IntKind.u64.wrap (a0_1)) 58))), 0)))))
theorem tripartitelaw12_Options.mono : ∀ a0 a1 a2 a3 a4 a5 k, LeO (tripartitelaw12_Options.f k a0 a1 a2 a3 a4 a5) (tripartitelaw12_Options.f (k + 1) a0 a1 a2 a3 a4 a5) := by
 intro a0 a1 a2 a3 a4 a5 k
 unfold tripartitelaw12_Options.f
 repeat' first
   | (with_reducible exact tripartitelaw12_bare.mono _ _)
   | (with_reducible exact LeO.refl _)
   | (with_reducible exact LeO.none _)
   | (with_reducible refine LeO.ite ?_ ?_)
   | (with_reducible refine LeO.bind ?_ (fun _ => ?_))
   | exact tripartitelaw12_bare.mono _ _
   | exact LeO.none _
   | refine LeO.ite ?_ ?_
   | refine LeO.bind ?_ (fun _ => ?_)
def tripartitelaw12_Options.T2 : Bool × List (List Nat × List Nat) := (true, [([], []), ([0], [0]), ([1], [1]), ([], []), ([3], [3]), ([4, 2], [4]), ([], []), ([6], [6]), ([7, 5], [7]), ([0, 1, 2, 3, 4, 6, 7], []), ([9, 2, 8, 0, 1, 2, 3, 4, 6, 7], [2, 9]), ([0, 1, 2, 3, 4, 5, 6, 7, 9, 10], []), ([11, 5, 10, 0, 1, 2, 3, 4, 5, 6, 7, 9, 10], [5, 11]), ([0, 1, 2, 3, 4, 5, 6, 7, 8, 9, 10, 11, 12], []), ([13, 8, 12, 0, 1, 2, 3, 4, 5, 6, 7, 8, 9, 10, 11, 12], [8, 13])])
def tripartitelaw12_Options.B2 : List Nat := [0, 1, 3, 0, 8, 31, 0, 64, 255, 223, 1023, 2047, 4095, 8191, 16383]
theorem tripartitelaw12_Options.tab2 : rtab .any (opsOf Try.f59 2) = tripartitelaw12_Options.T2 := by kernel_rfl
theorem tripartitelaw12_Options.bits2 : waitsOk tripartitelaw12_Options.T2.2 tripartitelaw12_Options.B2 = true := by kernel_rfl
set_option maxHeartbeats 8000000 in
set_option maxRecDepth 100000 in
theorem tripartitelaw12_Options.calls (k : Nat) (a0_0 : Int) (a0_1 : Int) (a0_2 : Int) (a0_3 : ByteArray) (a0_4 : ByteArray) (a0_5 : ByteArray) (r1 : ByteArray) (r2 : ByteArray) (r3 : ByteArray) (r4 : Int) (r5 : Int) (r6 : Int) (w : World) (h : tripartitelaw12_Options.f k a0_0 a0_1 a0_2 a0_3 a0_4 a0_5 = some (r1, r2, r3, r4, r5, r6)) :
  Calls Try.prog 59 #[.agg #[.int .i64 a0_0, .int .i64 a0_1, .int .i64 a0_2, .string a0_3, .string a0_4, .string a0_5]] w fun e w' => e = .returned (.agg #[.string r1, .string r2, .string r3, .int .i64 r4, .int .i64 r5, .int .i64 r6]) ∧ Below w.heap.size w w' := by
 have hu74 := Try.underlying74
 have hu86 := Try.underlying86
 have hu109 := Try.underlying109
 have hu84 := Try.underlying84
 have HB := Aside0.mk (Below.refl w.heap.size w)
 have H : ((tripartitelaw12_labels.f a0_0 a0_1 a0_2 a0_3 a0_4 a0_5).bind fun bt582 => ((tripartitelaw12_bare.f k bt582.1).bind fun t592 => ((tripartitelaw12_bare.f k bt582.2.1).bind fun t593 => ((tripartitelaw12_bare.f k bt582.2.2.1).bind fun t594 => (some (t592, t593, t594, wrap64 (Int.tmod (IntKind.u64.wrap (a0_0)) 3), wrap64 (7 + (wrap64 (Int.tmod (IntKind.u64.wrap (a0_1)) 58))), 0)))))) = some (r1, r2, r3, r4, r5, r6) := h
 clear h
 replace H := Option.bind_eq_some_iff.mp H
 obtain ⟨⟨t582, t583, t584, t585, t586, t587, t588, t589, t590⟩, A20, H⟩ := H
 replace H : ((tripartitelaw12_bare.f k t582).bind fun t592 => ((tripartitelaw12_bare.f k t583).bind fun t593 => ((tripartitelaw12_bare.f k t584).bind fun t594 => (some (t592, t593, t594, wrap64 (Int.tmod (IntKind.u64.wrap (a0_0)) 3), wrap64 (7 + (wrap64 (Int.tmod (IntKind.u64.wrap (a0_1)) 58))), 0))))) = some (r1, r2, r3, r4, r5, r6) := H
 have A2 := Aside0.mk A20
 clear A20
 replace H := Option.bind_eq_some_iff.mp H
 obtain ⟨t592, A30, H⟩ := H
 replace H : ((tripartitelaw12_bare.f k t583).bind fun t593 => ((tripartitelaw12_bare.f k t584).bind fun t594 => (some (t592, t593, t594, wrap64 (Int.tmod (IntKind.u64.wrap (a0_0)) 3), wrap64 (7 + (wrap64 (Int.tmod (IntKind.u64.wrap (a0_1)) 58))), 0)))) = some (r1, r2, r3, r4, r5, r6) := H
 have A3 := Aside0.mk A30
 clear A30
 replace H := Option.bind_eq_some_iff.mp H
 obtain ⟨t593, A40, H⟩ := H
 replace H : ((tripartitelaw12_bare.f k t584).bind fun t594 => (some (t592, t593, t594, wrap64 (Int.tmod (IntKind.u64.wrap (a0_0)) 3), wrap64 (7 + (wrap64 (Int.tmod (IntKind.u64.wrap (a0_1)) 58))), 0))) = some (r1, r2, r3, r4, r5, r6) := H
 have A4 := Aside0.mk A40
 clear A40
 replace H := Option.bind_eq_some_iff.mp H
 obtain ⟨t594, A50, H⟩ := H
 replace H : (some (t592, t593, t594, wrap64 (Int.tmod (IntKind.u64.wrap (a0_0)) 3), wrap64 (7 + (wrap64 (Int.tmod (IntKind.u64.wrap (a0_1)) 58))), 0)) = some (r1, r2, r3, r4, r5, r6) := H
 have A5 := Aside0.mk A50
 clear A50
 simp only [Option.some.injEq, Prod.mk.injEq] at H
 obtain ⟨rfl, rfl, rfl, rfl, rfl, rfl⟩ := H
 go_enter Try.func59, Try.ntmps59
 try go_wp2_with (first | ((with_reducible refine gate_dst (N := 1) rfl ?_); refine box_event ?hg (N := 1) ?hd (cs := #[.int .i64 a0_0, .int .i64 a0_1, .int .i64 a0_2, .string a0_3, .string a0_4, .string a0_5]) (t := 74) ?hr ?_; (case hd => rfl); (case hg => rfl); (case hr => first | (go_simp; done) | (go_simp; rfl)); intro gb580 hg w6 hbox hb; have n0_ := Aside0.mk (below_step (by repeat (first | (with_reducible first | exact HB.out | apply below_alloc | apply pw_below_drewN | apply below_drew1) | exact HB.out)) hb); have n1_ := Aside0.mk (hbox); have n2_ := Aside0.mk ((by rw [hg]; exact (below_size (by repeat (first | (with_reducible first | exact HB.out | apply below_alloc | apply pw_below_drewN | apply below_drew1) | exact HB.out))) : w.heap.size ≤ gb580)); have n3_ := Aside0.mk ((by rw [hg]; exact (below_size (by repeat (first | (with_reducible first | exact HB.out | apply below_alloc | apply pw_below_drewN | apply below_drew1) | exact HB.out))) : w.heap.size ≤ gb580)); clear HB; have HB := n0_; have BK580 := n1_; have GW580 := n2_; have GE580 := n3_; clear n0_ n1_ n2_ n3_; clear hb hbox hg) | ((with_reducible refine gate_dst (N := 2) rfl ?_); refine box_event ?hg (N := 2) ?hd (cs := #[.string (⟨#[]⟩ : ByteArray), .string (⟨#[]⟩ : ByteArray), .string (⟨#[]⟩ : ByteArray), .int .i64 0, .int .i64 0, .int .i64 0]) (t := 86) ?hr ?_; (case hd => rfl); (case hg => rfl); (case hr => first | (go_simp; done) | (go_simp; rfl)); intro gb581 hg w7 hbox hb; have n0_ := Aside0.mk (blk_below (g := gb580) (o := .cells #[.int .i64 a0_0, .int .i64 a0_1, .int .i64 a0_2, .string a0_3, .string a0_4, .string a0_5] 74 (0, 0)) (by (with_reducible repeat (first | refine blk_drewN ?_ _ | refine blk_drew ?_ | refine blk_alloc ?_ _)); exact BK580.out) hb); have n1_ := Aside0.mk (below_step (by repeat (first | (with_reducible first | exact HB.out | apply below_alloc | apply pw_below_drewN | apply below_drew1 | refine below_set ?_ GE580.out) | exact HB.out)) hb); have n2_ := Aside0.mk (hbox); have n3_ := Aside0.mk ((by rw [hg]; exact (below_size (by repeat (first | (with_reducible first | exact HB.out | apply below_alloc | apply pw_below_drewN | apply below_drew1 | refine below_set ?_ GE580.out) | exact HB.out))) : w.heap.size ≤ gb581)); have n4_ := Aside0.mk ((by rw [hg]; exact (below_size (by repeat (first | (with_reducible first | exact HB.out | apply below_alloc | apply pw_below_drewN | apply below_drew1 | refine below_set ?_ GE580.out) | exact HB.out))) : w.heap.size ≤ gb581)); have n5_ := Aside0.mk ((by rw [hg]; exact Nat.ne_of_lt (blk_lt (g := gb580) (o := .cells #[.int .i64 a0_0, .int .i64 a0_1, .int .i64 a0_2, .string a0_3, .string a0_4, .string a0_5] 74 (0, 0)) (by (with_reducible repeat (first | refine blk_drewN ?_ _ | refine blk_drew ?_ | refine blk_alloc ?_ _)); exact BK580.out)) : gb580 ≠ gb581)); have n6_ := Aside0.mk ((by rw [hg]; exact Nat.ne_of_gt (blk_lt (g := gb580) (o := .cells #[.int .i64 a0_0, .int .i64 a0_1, .int .i64 a0_2, .string a0_3, .string a0_4, .string a0_5] 74 (0, 0)) (by (with_reducible repeat (first | refine blk_drewN ?_ _ | refine blk_drew ?_ | refine blk_alloc ?_ _)); exact BK580.out)) : gb581 ≠ gb580)); clear BK580; clear HB; have BK580 := n0_; have HB := n1_; have BK581 := n2_; have GW581 := n3_; have GE581 := n4_; have NB580_581 := n5_; have NB581_580 := n6_; clear n0_ n1_ n2_ n3_ n4_ n5_ n6_; clear hb hbox hg; have hnb8 := NB580_581.out; have hnc8 := NB581_580.out; have hcz9_0 : w7.cell? ⟨gb580, 0, none⟩ = some (.int .i64 a0_0) := (blk_cell BK580.out 0).trans rfl; have hcz9_1 : w7.cell? ⟨gb580, 1, none⟩ = some (.int .i64 a0_1) := (blk_cell BK580.out 1).trans rfl; have hcz9_2 : w7.cell? ⟨gb580, 2, none⟩ = some (.int .i64 a0_2) := (blk_cell BK580.out 2).trans rfl; have hcz9_3 : w7.cell? ⟨gb580, 3, none⟩ = some (.string a0_3) := (blk_cell BK580.out 3).trans rfl; have hcz9_4 : w7.cell? ⟨gb580, 4, none⟩ = some (.string a0_4) := (blk_cell BK580.out 4).trans rfl; have hcz9_5 : w7.cell? ⟨gb580, 5, none⟩ = some (.string a0_5) := (blk_cell BK580.out 5).trans rfl; have hfz9_0 := blk_frozen BK580.out 0; have hfz9_1 := blk_frozen BK580.out 1; have hfz9_2 := blk_frozen BK580.out 2; have hfz9_3 := blk_frozen BK580.out 3; have hfz9_4 := blk_frozen BK580.out 4; have hfz9_5 := blk_frozen BK580.out 5) | ((with_reducible refine gate_callee (f := 106) rfl ?_); refine goesL_ (some 5) rfl rfl Try.func106 (by kernel_rfl) rfl #[.agg #[.int .i64 a0_0, .int .i64 a0_1, .int .i64 a0_2, .string a0_3, .string a0_4, .string a0_5]] rfl (by (try simp only [List.map_toArray, List.map_cons, List.map_nil]); first | done | rfl | (simp only [List.length_drop, List.length_take]; rfl)) ?_; (with_reducible refine (tripartitelaw12_labels.calls a0_0 a0_1 a0_2 a0_3 a0_4 a0_5 t582 t583 t584 t585 t586 t587 t588 t589 t590 _ A2.out).mono ?_); rintro e w10 ⟨rfl, hb⟩; refine ⟨_, rfl, ?_⟩; have n0_ := Aside0.mk (blk_below (g := gb580) (o := .cells #[.int .i64 a0_0, .int .i64 a0_1, .int .i64 a0_2, .string a0_3, .string a0_4, .string a0_5] 74 (0, 0)) (by (with_reducible repeat (first | refine blk_drewN ?_ _ | refine blk_drew ?_ | refine blk_alloc ?_ _)); exact BK580.out) hb); have n1_ := Aside0.mk (blk_below (g := gb581) (o := .cells #[.string (⟨#[]⟩ : ByteArray), .string (⟨#[]⟩ : ByteArray), .string (⟨#[]⟩ : ByteArray), .int .i64 0, .int .i64 0, .int .i64 0] 86 (0, 0)) (by (with_reducible repeat (first | refine blk_drewN ?_ _ | refine blk_drew ?_ | refine blk_alloc ?_ _)); exact BK581.out) hb); have n2_ := Aside0.mk (below_step (by repeat (first | (with_reducible first | exact HB.out | apply below_alloc | apply pw_below_drewN | apply below_drew1 | refine below_set ?_ GE580.out | refine below_set ?_ GE581.out) | exact HB.out)) hb); clear BK580; clear BK581; clear HB; have BK580 := n0_; have BK581 := n1_; have HB := n2_; clear n0_ n1_ n2_; (try clear hb); (try clear hb2); (try clear hk); (try clear hi)) | ((with_reducible refine gate_dst (N := 3) rfl ?_); refine box_event ?hg (N := 3) ?hd (cs := #[.string (⟨#[]⟩ : ByteArray), .string (⟨#[]⟩ : ByteArray), .string (⟨#[]⟩ : ByteArray), .bool false, .string (⟨#[]⟩ : ByteArray), .string (⟨#[]⟩ : ByteArray), .string (⟨#[]⟩ : ByteArray), .string (⟨#[]⟩ : ByteArray), .bool false]) (t := 109) ?hr ?_; (case hd => rfl); (case hg => rfl); (case hr => first | (go_simp; done) | (go_simp; rfl)); intro gb591 hg w11 hbox hb; have n0_ := Aside0.mk (blk_below (g := gb580) (o := .cells #[.int .i64 a0_0, .int .i64 a0_1, .int .i64 a0_2, .string a0_3, .string a0_4, .string a0_5] 74 (0, 0)) (by (with_reducible repeat (first | refine blk_drewN ?_ _ | refine blk_drew ?_ | refine blk_alloc ?_ _)); exact BK580.out) hb); have n1_ := Aside0.mk (blk_below (g := gb581) (o := .cells #[.string (⟨#[]⟩ : ByteArray), .string (⟨#[]⟩ : ByteArray), .string (⟨#[]⟩ : ByteArray), .int .i64 0, .int .i64 0, .int .i64 0] 86 (0, 0)) (by (with_reducible repeat (first | refine blk_drewN ?_ _ | refine blk_drew ?_ | refine blk_alloc ?_ _)); exact BK581.out) hb); have n2_ := Aside0.mk (below_step (by repeat (first | (with_reducible first | exact HB.out | apply below_alloc | apply pw_below_drewN | apply below_drew1 | refine below_set ?_ GE580.out | refine below_set ?_ GE581.out) | exact HB.out)) hb); have n3_ := Aside0.mk (hbox); have n4_ := Aside0.mk ((by rw [hg]; exact (below_size (by repeat (first | (with_reducible first | exact HB.out | apply below_alloc | apply pw_below_drewN | apply below_drew1 | refine below_set ?_ GE580.out | refine below_set ?_ GE581.out) | exact HB.out))) : w.heap.size ≤ gb591)); have n5_ := Aside0.mk ((by rw [hg]; exact (below_size (by repeat (first | (with_reducible first | exact HB.out | apply below_alloc | apply pw_below_drewN | apply below_drew1 | refine below_set ?_ GE580.out | refine below_set ?_ GE581.out) | exact HB.out))) : w.heap.size ≤ gb591)); have n6_ := Aside0.mk ((by rw [hg]; exact Nat.ne_of_lt (blk_lt (g := gb580) (o := .cells #[.int .i64 a0_0, .int .i64 a0_1, .int .i64 a0_2, .string a0_3, .string a0_4, .string a0_5] 74 (0, 0)) (by (with_reducible repeat (first | refine blk_drewN ?_ _ | refine blk_drew ?_ | refine blk_alloc ?_ _)); exact BK580.out)) : gb580 ≠ gb591)); have n7_ := Aside0.mk ((by rw [hg]; exact Nat.ne_of_gt (blk_lt (g := gb580) (o := .cells #[.int .i64 a0_0, .int .i64 a0_1, .int .i64 a0_2, .string a0_3, .string a0_4, .string a0_5] 74 (0, 0)) (by (with_reducible repeat (first | refine blk_drewN ?_ _ | refine blk_drew ?_ | refine blk_alloc ?_ _)); exact BK580.out)) : gb591 ≠ gb580)); have n8_ := Aside0.mk ((by rw [hg]; exact Nat.ne_of_lt (blk_lt (g := gb581) (o := .cells #[.string (⟨#[]⟩ : ByteArray), .string (⟨#[]⟩ : ByteArray), .string (⟨#[]⟩ : ByteArray), .int .i64 0, .int .i64 0, .int .i64 0] 86 (0, 0)) (by (with_reducible repeat (first | refine blk_drewN ?_ _ | refine blk_drew ?_ | refine blk_alloc ?_ _)); exact BK581.out)) : gb581 ≠ gb591)); have n9_ := Aside0.mk ((by rw [hg]; exact Nat.ne_of_gt (blk_lt (g := gb581) (o := .cells #[.string (⟨#[]⟩ : ByteArray), .string (⟨#[]⟩ : ByteArray), .string (⟨#[]⟩ : ByteArray), .int .i64 0, .int .i64 0, .int .i64 0] 86 (0, 0)) (by (with_reducible repeat (first | refine blk_drewN ?_ _ | refine blk_drew ?_ | refine blk_alloc ?_ _)); exact BK581.out)) : gb591 ≠ gb581)); clear BK580; clear BK581; clear HB; have BK580 := n0_; have BK581 := n1_; have HB := n2_; have BK591 := n3_; have GW591 := n4_; have GE591 := n5_; have NB580_591 := n6_; have NB591_580 := n7_; have NB581_591 := n8_; have NB591_581 := n9_; clear n0_ n1_ n2_ n3_ n4_ n5_ n6_ n7_ n8_ n9_; clear hb hbox hg; have hnb12 := NB591_580.out; have hnc12 := NB580_591.out; have hnb13 := NB591_581.out; have hnc13 := NB581_591.out; have hcz14_0 : w11.cell? ⟨gb591, 0, none⟩ = some (.string (⟨#[]⟩ : ByteArray)) := (blk_cell BK591.out 0).trans rfl; have hcz14_1 : w11.cell? ⟨gb591, 1, none⟩ = some (.string (⟨#[]⟩ : ByteArray)) := (blk_cell BK591.out 1).trans rfl; have hcz14_2 : w11.cell? ⟨gb591, 2, none⟩ = some (.string (⟨#[]⟩ : ByteArray)) := (blk_cell BK591.out 2).trans rfl; have hcz14_3 : w11.cell? ⟨gb591, 3, none⟩ = some (.bool false) := (blk_cell BK591.out 3).trans rfl; have hcz14_4 : w11.cell? ⟨gb591, 4, none⟩ = some (.string (⟨#[]⟩ : ByteArray)) := (blk_cell BK591.out 4).trans rfl; have hcz14_5 : w11.cell? ⟨gb591, 5, none⟩ = some (.string (⟨#[]⟩ : ByteArray)) := (blk_cell BK591.out 5).trans rfl; have hcz14_6 : w11.cell? ⟨gb591, 6, none⟩ = some (.string (⟨#[]⟩ : ByteArray)) := (blk_cell BK591.out 6).trans rfl; have hcz14_7 : w11.cell? ⟨gb591, 7, none⟩ = some (.string (⟨#[]⟩ : ByteArray)) := (blk_cell BK591.out 7).trans rfl; have hcz14_8 : w11.cell? ⟨gb591, 8, none⟩ = some (.bool false) := (blk_cell BK591.out 8).trans rfl; have hfz14_0 := blk_frozen BK591.out 0; have hfz14_1 := blk_frozen BK591.out 1; have hfz14_2 := blk_frozen BK591.out 2; have hfz14_3 := blk_frozen BK591.out 3; have hfz14_4 := blk_frozen BK591.out 4; have hfz14_5 := blk_frozen BK591.out 5; have hfz14_6 := blk_frozen BK591.out 6; have hfz14_7 := blk_frozen BK591.out 7; have hfz14_8 := blk_frozen BK591.out 8))
 have n0_ : Aside0 ((((((((((w11.setCell ⟨gb591, 0, none⟩ (.string t582)).setCell ⟨gb591, 1, none⟩ (.string t583)).setCell ⟨gb591, 2, none⟩ (.string t584)).setCell ⟨gb591, 3, none⟩ (.bool t585)).setCell ⟨gb591, 4, none⟩ (.string t586)).setCell ⟨gb591, 5, none⟩ (.string t587)).setCell ⟨gb591, 6, none⟩ (.string t588)).setCell ⟨gb591, 7, none⟩ (.string t589)).setCell ⟨gb591, 8, none⟩ (.bool t590)).heap[gb580]? = some (.cells #[.int .i64 a0_0, .int .i64 a0_1, .int .i64 a0_2, .string a0_3, .string a0_4, .string a0_5] 74 (0, 0))) := ⟨by (with_reducible repeat (first | refine blk_drewN ?_ _ | refine blk_drew ?_ | refine blk_alloc ?_ _)); refine blk_far ?_ NB580_591.out _; (with_reducible repeat (first | refine blk_drewN ?_ _ | refine blk_drew ?_ | refine blk_alloc ?_ _)); refine blk_far ?_ NB580_591.out _; (with_reducible repeat (first | refine blk_drewN ?_ _ | refine blk_drew ?_ | refine blk_alloc ?_ _)); refine blk_far ?_ NB580_591.out _; (with_reducible repeat (first | refine blk_drewN ?_ _ | refine blk_drew ?_ | refine blk_alloc ?_ _)); refine blk_far ?_ NB580_591.out _; (with_reducible repeat (first | refine blk_drewN ?_ _ | refine blk_drew ?_ | refine blk_alloc ?_ _)); refine blk_far ?_ NB580_591.out _; (with_reducible repeat (first | refine blk_drewN ?_ _ | refine blk_drew ?_ | refine blk_alloc ?_ _)); refine blk_far ?_ NB580_591.out _; (with_reducible repeat (first | refine blk_drewN ?_ _ | refine blk_drew ?_ | refine blk_alloc ?_ _)); refine blk_far ?_ NB580_591.out _; (with_reducible repeat (first | refine blk_drewN ?_ _ | refine blk_drew ?_ | refine blk_alloc ?_ _)); refine blk_far ?_ NB580_591.out _; (with_reducible repeat (first | refine blk_drewN ?_ _ | refine blk_drew ?_ | refine blk_alloc ?_ _)); refine blk_far ?_ NB580_591.out _; (with_reducible repeat (first | refine blk_drewN ?_ _ | refine blk_drew ?_ | refine blk_alloc ?_ _)); exact BK580.out⟩
 have n1_ : Aside0 ((((((((((w11.setCell ⟨gb591, 0, none⟩ (.string t582)).setCell ⟨gb591, 1, none⟩ (.string t583)).setCell ⟨gb591, 2, none⟩ (.string t584)).setCell ⟨gb591, 3, none⟩ (.bool t585)).setCell ⟨gb591, 4, none⟩ (.string t586)).setCell ⟨gb591, 5, none⟩ (.string t587)).setCell ⟨gb591, 6, none⟩ (.string t588)).setCell ⟨gb591, 7, none⟩ (.string t589)).setCell ⟨gb591, 8, none⟩ (.bool t590)).heap[gb581]? = some (.cells #[.string (⟨#[]⟩ : ByteArray), .string (⟨#[]⟩ : ByteArray), .string (⟨#[]⟩ : ByteArray), .int .i64 0, .int .i64 0, .int .i64 0] 86 (0, 0))) := ⟨by (with_reducible repeat (first | refine blk_drewN ?_ _ | refine blk_drew ?_ | refine blk_alloc ?_ _)); refine blk_far ?_ NB581_591.out _; (with_reducible repeat (first | refine blk_drewN ?_ _ | refine blk_drew ?_ | refine blk_alloc ?_ _)); refine blk_far ?_ NB581_591.out _; (with_reducible repeat (first | refine blk_drewN ?_ _ | refine blk_drew ?_ | refine blk_alloc ?_ _)); refine blk_far ?_ NB581_591.out _; (with_reducible repeat (first | refine blk_drewN ?_ _ | refine blk_drew ?_ | refine blk_alloc ?_ _)); refine blk_far ?_ NB581_591.out _; (with_reducible repeat (first | refine blk_drewN ?_ _ | refine blk_drew ?_ | refine blk_alloc ?_ _)); refine blk_far ?_ NB581_591.out _; (with_reducible repeat (first | refine blk_drewN ?_ _ | refine blk_drew ?_ | refine blk_alloc ?_ _)); refine blk_far ?_ NB581_591.out _; (with_reducible repeat (first | refine blk_drewN ?_ _ | refine blk_drew ?_ | refine blk_alloc ?_ _)); refine blk_far ?_ NB581_591.out _; (with_reducible repeat (first | refine blk_drewN ?_ _ | refine blk_drew ?_ | refine blk_alloc ?_ _)); refine blk_far ?_ NB581_591.out _; (with_reducible repeat (first | refine blk_drewN ?_ _ | refine blk_drew ?_ | refine blk_alloc ?_ _)); refine blk_far ?_ NB581_591.out _; (with_reducible repeat (first | refine blk_drewN ?_ _ | refine blk_drew ?_ | refine blk_alloc ?_ _)); exact BK581.out⟩
 have n2_ : Aside0 ((((((((((w11.setCell ⟨gb591, 0, none⟩ (.string t582)).setCell ⟨gb591, 1, none⟩ (.string t583)).setCell ⟨gb591, 2, none⟩ (.string t584)).setCell ⟨gb591, 3, none⟩ (.bool t585)).setCell ⟨gb591, 4, none⟩ (.string t586)).setCell ⟨gb591, 5, none⟩ (.string t587)).setCell ⟨gb591, 6, none⟩ (.string t588)).setCell ⟨gb591, 7, none⟩ (.string t589)).setCell ⟨gb591, 8, none⟩ (.bool t590)).heap[gb591]? = some (.cells #[.string t582, .string t583, .string t584, .bool t585, .string t586, .string t587, .string t588, .string t589, .bool t590] 109 (0, 0))) := ⟨by (with_reducible repeat (first | refine blk_drewN ?_ _ | refine blk_drew ?_ | refine blk_alloc ?_ _)); refine blk_put (cs := #[.string t582, .string t583, .string t584, .bool t585, .string t586, .string t587, .string t588, .string t589, .bool false]) ?_ 8 _ rfl; (with_reducible repeat (first | refine blk_drewN ?_ _ | refine blk_drew ?_ | refine blk_alloc ?_ _)); refine blk_put (cs := #[.string t582, .string t583, .string t584, .bool t585, .string t586, .string t587, .string t588, .string (⟨#[]⟩ : ByteArray), .bool false]) ?_ 7 _ rfl; (with_reducible repeat (first | refine blk_drewN ?_ _ | refine blk_drew ?_ | refine blk_alloc ?_ _)); refine blk_put (cs := #[.string t582, .string t583, .string t584, .bool t585, .string t586, .string t587, .string (⟨#[]⟩ : ByteArray), .string (⟨#[]⟩ : ByteArray), .bool false]) ?_ 6 _ rfl; (with_reducible repeat (first | refine blk_drewN ?_ _ | refine blk_drew ?_ | refine blk_alloc ?_ _)); refine blk_put (cs := #[.string t582, .string t583, .string t584, .bool t585, .string t586, .string (⟨#[]⟩ : ByteArray), .string (⟨#[]⟩ : ByteArray), .string (⟨#[]⟩ : ByteArray), .bool false]) ?_ 5 _ rfl; (with_reducible repeat (first | refine blk_drewN ?_ _ | refine blk_drew ?_ | refine blk_alloc ?_ _)); refine blk_put (cs := #[.string t582, .string t583, .string t584, .bool t585, .string (⟨#[]⟩ : ByteArray), .string (⟨#[]⟩ : ByteArray), .string (⟨#[]⟩ : ByteArray), .string (⟨#[]⟩ : ByteArray), .bool false]) ?_ 4 _ rfl; (with_reducible repeat (first | refine blk_drewN ?_ _ | refine blk_drew ?_ | refine blk_alloc ?_ _)); refine blk_put (cs := #[.string t582, .string t583, .string t584, .bool false, .string (⟨#[]⟩ : ByteArray), .string (⟨#[]⟩ : ByteArray), .string (⟨#[]⟩ : ByteArray), .string (⟨#[]⟩ : ByteArray), .bool false]) ?_ 3 _ rfl; (with_reducible repeat (first | refine blk_drewN ?_ _ | refine blk_drew ?_ | refine blk_alloc ?_ _)); refine blk_put (cs := #[.string t582, .string t583, .string (⟨#[]⟩ : ByteArray), .bool false, .string (⟨#[]⟩ : ByteArray), .string (⟨#[]⟩ : ByteArray), .string (⟨#[]⟩ : ByteArray), .string (⟨#[]⟩ : ByteArray), .bool false]) ?_ 2 _ rfl; (with_reducible repeat (first | refine blk_drewN ?_ _ | refine blk_drew ?_ | refine blk_alloc ?_ _)); refine blk_put (cs := #[.string t582, .string (⟨#[]⟩ : ByteArray), .string (⟨#[]⟩ : ByteArray), .bool false, .string (⟨#[]⟩ : ByteArray), .string (⟨#[]⟩ : ByteArray), .string (⟨#[]⟩ : ByteArray), .string (⟨#[]⟩ : ByteArray), .bool false]) ?_ 1 _ rfl; (with_reducible repeat (first | refine blk_drewN ?_ _ | refine blk_drew ?_ | refine blk_alloc ?_ _)); refine blk_put (cs := #[.string (⟨#[]⟩ : ByteArray), .string (⟨#[]⟩ : ByteArray), .string (⟨#[]⟩ : ByteArray), .bool false, .string (⟨#[]⟩ : ByteArray), .string (⟨#[]⟩ : ByteArray), .string (⟨#[]⟩ : ByteArray), .string (⟨#[]⟩ : ByteArray), .bool false]) ?_ 0 _ rfl; (with_reducible repeat (first | refine blk_drewN ?_ _ | refine blk_drew ?_ | refine blk_alloc ?_ _)); exact BK591.out⟩
 have n3_ : Aside0 (Below w.heap.size w (((((((((w11.setCell ⟨gb591, 0, none⟩ (.string t582)).setCell ⟨gb591, 1, none⟩ (.string t583)).setCell ⟨gb591, 2, none⟩ (.string t584)).setCell ⟨gb591, 3, none⟩ (.bool t585)).setCell ⟨gb591, 4, none⟩ (.string t586)).setCell ⟨gb591, 5, none⟩ (.string t587)).setCell ⟨gb591, 6, none⟩ (.string t588)).setCell ⟨gb591, 7, none⟩ (.string t589)).setCell ⟨gb591, 8, none⟩ (.bool t590))) := ⟨by repeat (first | (with_reducible first | exact HB.out | apply below_alloc | apply pw_below_drewN | apply below_drew1 | refine below_set ?_ GE580.out | refine below_set ?_ GE581.out | refine below_set ?_ GE591.out) | exact HB.out)⟩
 (try clear BK580)
 (try clear BK581)
 (try clear BK591)
 (try clear HB)
 generalize (((((((((w11.setCell ⟨gb591, 0, none⟩ (.string t582)).setCell ⟨gb591, 1, none⟩ (.string t583)).setCell ⟨gb591, 2, none⟩ (.string t584)).setCell ⟨gb591, 3, none⟩ (.bool t585)).setCell ⟨gb591, 4, none⟩ (.string t586)).setCell ⟨gb591, 5, none⟩ (.string t587)).setCell ⟨gb591, 6, none⟩ (.string t588)).setCell ⟨gb591, 7, none⟩ (.string t589)).setCell ⟨gb591, 8, none⟩ (.bool t590)) = w15 at n0_ n1_ n2_ n3_ ⊢
 have BK580 := n0_
 have BK581 := n1_
 have BK591 := n2_
 have HB := n3_
 clear n0_ n1_ n2_ n3_
 have n0_ := Aside0.mk (blk_drew BK580.out)
 have n1_ := Aside0.mk (blk_drew BK581.out)
 have n2_ := Aside0.mk (blk_drew BK591.out)
 have n3_ := Aside0.mk (below_drew1 HB.out)
 clear BK580
 clear BK581
 clear BK591
 clear HB
 have BK580 := n0_
 have BK581 := n1_
 have BK591 := n2_
 have HB := n3_
 clear n0_ n1_ n2_ n3_
 refine start_ (n := 15) (S := fun w' => w'.cell? ⟨gb591, 0, none⟩ = some (.string t582) ∧ w'.cell? ⟨gb591, 1, none⟩ = some (.string t583) ∧ w'.cell? ⟨gb591, 2, none⟩ = some (.string t584) ∧ w'.cell? ⟨gb591, 3, none⟩ = some (.bool t585) ∧ w'.cell? ⟨gb591, 4, none⟩ = some (.string t586) ∧ w'.cell? ⟨gb591, 5, none⟩ = some (.string t587) ∧ w'.cell? ⟨gb591, 6, none⟩ = some (.string t588) ∧ w'.cell? ⟨gb591, 7, none⟩ = some (.string t589) ∧ w'.cell? ⟨gb591, 8, none⟩ = some (.bool t590)) (ds := [10, 12, 14]) #[false, false, false, false, false, false, false, false, false, false, false, false, false, false, false] (by kernel_rfl) rfl rfl ⟨(blk_cell BK591.out 0).trans rfl, (blk_cell BK591.out 1).trans rfl, (blk_cell BK591.out 2).trans rfl, (blk_cell BK591.out 3).trans rfl, (blk_cell BK591.out 4).trans rfl, (blk_cell BK591.out 5).trans rfl, (blk_cell BK591.out 6).trans rfl, (blk_cell BK591.out 7).trans rfl, (blk_cell BK591.out 8).trans rfl⟩ (fun hHeld => ?_); refine with_tabW tripartitelaw12_Options.tab2 tripartitelaw12_Options.bits2 (fun HT_ HW_ => ?_)
 generalize w15.drew = w16 at BK580 BK581 BK591 HB hHeld ⊢
 refine pure_ (i := 0) (N := some 6) (v := ?_) (a' := ?_) #[true, false, false, false, false, false, false, false, false, false, false, false, false, false, false] rfl rfl (any_of HT_.out (by kernel_rfl)) (fun _ _ _ h => h) (Or.inl ⟨by rfl, ?_⟩) ?_ ?_
 rotate_left
 ·intro w'
  go_simp
  with_reducible rfl
 rotate_left
 ·simp only [Act.put, List.setIfInBounds_toArray, List.set_cons_zero, List.set_cons_succ, i64_w, i32_w]
  rfl
 refine pure_ (i := 3) (N := some 9) (v := ?_) (a' := ?_) #[true, false, false, true, false, false, false, false, false, false, false, false, false, false, false] rfl rfl (any_of HT_.out (by kernel_rfl)) (fun _ _ _ h => h) (Or.inl ⟨by rfl, ?_⟩) ?_ ?_
 rotate_left
 ·intro w'
  go_simp
  with_reducible rfl
 rotate_left
 ·simp only [Act.put, List.setIfInBounds_toArray, List.set_cons_zero, List.set_cons_succ, i64_w, i32_w]
  rfl
 refine pure_ (i := 6) (N := some 12) (v := ?_) (a' := ?_) #[true, false, false, true, false, false, true, false, false, false, false, false, false, false, false] rfl rfl (any_of HT_.out (by kernel_rfl)) (fun _ _ _ h => h) (Or.inl ⟨by rfl, ?_⟩) ?_ ?_
 rotate_left
 ·intro w'
  go_simp
  with_reducible rfl
 rotate_left
 ·simp only [Act.put, List.setIfInBounds_toArray, List.set_cons_zero, List.set_cons_succ, i64_w, i32_w]
  rfl
 refine take_ (i := 1) (N := some 7) (v := ?_) (a' := ?_) #[true, true, false, true, false, false, true, false, false, false, false, false, false, false, false] rfl rfl (take_ofW HT_.out HW_.out (by kernel_rfl)) (fun _ _ _ h => h) (Or.inl ⟨by rfl, ?_⟩) hHeld ?_ ?_
 rotate_left
 ·rintro w' ⟨s0, s1, s2, s3, s4, s5, s6, s7, s8⟩
  go_simp
  with_reducible rfl
 rotate_left
 ·simp only [Act.put, List.setIfInBounds_toArray, List.set_cons_zero, List.set_cons_succ, i64_w, i32_w]
  rfl
 refine take_ (i := 4) (N := some 10) (v := ?_) (a' := ?_) #[true, true, false, true, true, false, true, false, false, false, false, false, false, false, false] rfl rfl (take_ofW HT_.out HW_.out (by kernel_rfl)) (fun _ _ _ h => h) (Or.inl ⟨by rfl, ?_⟩) hHeld ?_ ?_
 rotate_left
 ·rintro w' ⟨s0, s1, s2, s3, s4, s5, s6, s7, s8⟩
  go_simp
  with_reducible rfl
 rotate_left
 ·simp only [Act.put, List.setIfInBounds_toArray, List.set_cons_zero, List.set_cons_succ, i64_w, i32_w]
  rfl
 refine take_ (i := 7) (N := some 13) (v := ?_) (a' := ?_) #[true, true, false, true, true, false, true, true, false, false, false, false, false, false, false] rfl rfl (take_ofW HT_.out HW_.out (by kernel_rfl)) (fun _ _ _ h => h) (Or.inl ⟨by rfl, ?_⟩) hHeld ?_ ?_
 rotate_left
 ·rintro w' ⟨s0, s1, s2, s3, s4, s5, s6, s7, s8⟩
  go_simp
  with_reducible rfl
 rotate_left
 ·simp only [Act.put, List.setIfInBounds_toArray, List.set_cons_zero, List.set_cons_succ, i64_w, i32_w]
  rfl
 refine one_ (i := 2) (N := some 8) #[true, true, true, true, true, false, true, true, false, false, false, false, false, false, false] rfl rfl (one_of HT_.out (by kernel_rfl)) (by decide) (fun K hK => ?_)
 refine goes_ Try.func107 (by kernel_rfl) rfl #[.string t582] (by rfl) rfl rfl (by (try simp only [List.map_toArray, List.map_cons, List.map_nil]); first | done | rfl | (simp only [List.length_drop, List.length_take]; rfl)) ?_
 with_reducible refine (tripartitelaw12_bare.calls k t582 t592 _ A3.out).mono ?_
 rintro e w' ⟨rfl, ⟨nd, rfl⟩⟩
 refine ⟨_, rfl, ?_⟩
 refine hK.out _ _ ⟨(blk_cell BK591.out 0).trans rfl, (blk_cell BK591.out 1).trans rfl, (blk_cell BK591.out 2).trans rfl, (blk_cell BK591.out 3).trans rfl, (blk_cell BK591.out 4).trans rfl, (blk_cell BK591.out 5).trans rfl, (blk_cell BK591.out 6).trans rfl, (blk_cell BK591.out 7).trans rfl, (blk_cell BK591.out 8).trans rfl⟩ (fun hHeld => ?_)
 clear hK K
 refine norm_ (a' := ?_) ?_ ?_
 rotate_left
 ·show Act.put _ (some 8) _ = _
  simp only [Act.put, List.setIfInBounds_toArray, List.set_cons_zero, List.set_cons_succ, i64_w, i32_w]
  rfl
 refine pure_ (i := 9) (N := some 15) (v := ?_) (a' := ?_) #[true, true, true, true, true, false, true, true, false, true, false, false, false, false, false] rfl rfl (any_of HT_.out (by kernel_rfl)) (fun _ _ _ h => h) (Or.inl ⟨by rfl, ?_⟩) ?_ ?_
 rotate_left
 ·intro w'
  go_simp
  with_reducible rfl
 rotate_left
 ·simp only [Act.put, List.setIfInBounds_toArray, List.set_cons_zero, List.set_cons_succ, i64_w, i32_w]
  rfl
 refine one_ (i := 5) (N := some 11) #[true, true, true, true, true, true, true, true, false, true, false, false, false, false, false] rfl rfl (one_of HT_.out (by kernel_rfl)) (by decide) (fun K hK => ?_)
 refine goes_ Try.func107 (by kernel_rfl) rfl #[.string t583] (by rfl) rfl rfl (by (try simp only [List.map_toArray, List.map_cons, List.map_nil]); first | done | rfl | (simp only [List.length_drop, List.length_take]; rfl)) ?_
 with_reducible refine (tripartitelaw12_bare.calls k t583 t593 _ A4.out).mono ?_
 rintro e w' ⟨rfl, ⟨nd, rfl⟩⟩
 refine ⟨_, rfl, ?_⟩
 refine hK.out _ _ ⟨(blk_cell BK591.out 0).trans rfl, (blk_cell BK591.out 1).trans rfl, (blk_cell BK591.out 2).trans rfl, (blk_cell BK591.out 3).trans rfl, (blk_cell BK591.out 4).trans rfl, (blk_cell BK591.out 5).trans rfl, (blk_cell BK591.out 6).trans rfl, (blk_cell BK591.out 7).trans rfl, (blk_cell BK591.out 8).trans rfl⟩ (fun hHeld => ?_)
 clear hK K
 refine norm_ (a' := ?_) ?_ ?_
 rotate_left
 ·show Act.put _ (some 11) _ = _
  simp only [Act.put, List.setIfInBounds_toArray, List.set_cons_zero, List.set_cons_succ, i64_w, i32_w]
  rfl
 refine one_ (i := 8) (N := some 14) #[true, true, true, true, true, true, true, true, true, true, false, false, false, false, false] rfl rfl (one_of HT_.out (by kernel_rfl)) (by decide) (fun K hK => ?_)
 refine goes_ Try.func107 (by kernel_rfl) rfl #[.string t584] (by rfl) rfl rfl (by (try simp only [List.map_toArray, List.map_cons, List.map_nil]); first | done | rfl | (simp only [List.length_drop, List.length_take]; rfl)) ?_
 with_reducible refine (tripartitelaw12_bare.calls k t584 t594 _ A5.out).mono ?_
 rintro e w' ⟨rfl, ⟨nd, rfl⟩⟩
 refine ⟨_, rfl, ?_⟩
 refine hK.out _ _ ⟨(blk_cell BK591.out 0).trans rfl, (blk_cell BK591.out 1).trans rfl, (blk_cell BK591.out 2).trans rfl, (blk_cell BK591.out 3).trans rfl, (blk_cell BK591.out 4).trans rfl, (blk_cell BK591.out 5).trans rfl, (blk_cell BK591.out 6).trans rfl, (blk_cell BK591.out 7).trans rfl, (blk_cell BK591.out 8).trans rfl⟩ (fun hHeld => ?_)
 clear hK K
 refine norm_ (a' := ?_) ?_ ?_
 rotate_left
 ·show Act.put _ (some 14) _ = _
  simp only [Act.put, List.setIfInBounds_toArray, List.set_cons_zero, List.set_cons_succ, i64_w, i32_w]
  rfl
 refine last_ (i := 10) (N := none) #[true, true, true, true, true, true, true, true, true, true, true, false, false, false, false] rfl rfl (one_of HT_.out (by kernel_rfl)) (by decide) (fun K hK => ?_)
 have hs17 : w16.cell? ⟨gb591, 0, none⟩ = some (.string t582) := (blk_cell BK591.out 0).trans rfl
 have hfs17 := blk_frozen BK591.out 0
 have hns17_0 := NB580_591.out
 have hns17_1 := NB581_591.out
 have hms17_0 := NB591_580.out
 have hms17_1 := NB591_581.out
 refine skip_ (w1 := ?_) (by rfl) rfl ?_ ?_
 rotate_left
 ·go_simp
  rfl
 refine hK.out _ _ ?_
 clear hK K
 refine pure_ (i := 11) (N := some 16) (v := ?_) (a' := ?_) #[true, true, true, true, true, true, true, true, true, true, true, true, false, false, false] rfl rfl (any_of HT_.out (by kernel_rfl)) (fun _ _ _ h => h) (Or.inl ⟨by rfl, ?_⟩) ?_ ?_
 rotate_left
 ·intro w'
  go_simp
  with_reducible rfl
 rotate_left
 ·simp only [Act.put, List.setIfInBounds_toArray, List.set_cons_zero, List.set_cons_succ, i64_w, i32_w]
  rfl
 refine last_ (i := 12) (N := none) #[true, true, true, true, true, true, true, true, true, true, true, true, true, false, false] rfl rfl (one_of HT_.out (by kernel_rfl)) (by decide) (fun K hK => ?_)
 have hs18 : w16.cell? ⟨gb591, 1, none⟩ = some (.string t583) := (blk_cell BK591.out 1).trans rfl
 have hfs18 := blk_frozen BK591.out 1
 have hns18_0 := NB580_591.out
 have hns18_1 := NB581_591.out
 have hms18_0 := NB591_580.out
 have hms18_1 := NB591_581.out
 refine skip_ (w1 := ?_) (by rfl) rfl ?_ ?_
 rotate_left
 ·go_simp
  rfl
 refine hK.out _ _ ?_
 clear hK K
 refine pure_ (i := 13) (N := some 17) (v := ?_) (a' := ?_) #[true, true, true, true, true, true, true, true, true, true, true, true, true, true, false] rfl rfl (any_of HT_.out (by kernel_rfl)) (fun _ _ _ h => h) (Or.inl ⟨by rfl, ?_⟩) ?_ ?_
 rotate_left
 ·intro w'
  go_simp
  with_reducible rfl
 rotate_left
 ·simp only [Act.put, List.setIfInBounds_toArray, List.set_cons_zero, List.set_cons_succ, i64_w, i32_w]
  rfl
 refine last_ (i := 14) (N := none) #[true, true, true, true, true, true, true, true, true, true, true, true, true, true, true] rfl rfl (one_of HT_.out (by kernel_rfl)) (by decide) (fun K hK => ?_)
 have hs19 : w16.cell? ⟨gb591, 2, none⟩ = some (.string t584) := (blk_cell BK591.out 2).trans rfl
 have hfs19 := blk_frozen BK591.out 2
 have hns19_0 := NB580_591.out
 have hns19_1 := NB581_591.out
 have hms19_0 := NB591_580.out
 have hms19_1 := NB591_581.out
 refine skip_ (w1 := ?_) (by rfl) rfl ?_ ?_
 rotate_left
 ·go_simp
  rfl
 refine hK.out _ _ ?_
 clear hK K
 refine done_ (done_of HT_.out (by kernel_rfl)) ?_
 have hcz20_0 : w16.cell? ⟨gb591, 0, none⟩ = some (.string t582) := (blk_cell BK591.out 0).trans rfl
 have hcz20_1 : w16.cell? ⟨gb591, 1, none⟩ = some (.string t583) := (blk_cell BK591.out 1).trans rfl
 have hcz20_2 : w16.cell? ⟨gb591, 2, none⟩ = some (.string t584) := (blk_cell BK591.out 2).trans rfl
 have hcz20_3 : w16.cell? ⟨gb591, 3, none⟩ = some (.bool t585) := (blk_cell BK591.out 3).trans rfl
 have hcz20_4 : w16.cell? ⟨gb591, 4, none⟩ = some (.string t586) := (blk_cell BK591.out 4).trans rfl
 have hcz20_5 : w16.cell? ⟨gb591, 5, none⟩ = some (.string t587) := (blk_cell BK591.out 5).trans rfl
 have hcz20_6 : w16.cell? ⟨gb591, 6, none⟩ = some (.string t588) := (blk_cell BK591.out 6).trans rfl
 have hcz20_7 : w16.cell? ⟨gb591, 7, none⟩ = some (.string t589) := (blk_cell BK591.out 7).trans rfl
 have hcz20_8 : w16.cell? ⟨gb591, 8, none⟩ = some (.bool t590) := (blk_cell BK591.out 8).trans rfl
 have hfz20_0 := blk_frozen BK591.out 0
 have hfz20_1 := blk_frozen BK591.out 1
 have hfz20_2 := blk_frozen BK591.out 2
 have hfz20_3 := blk_frozen BK591.out 3
 have hfz20_4 := blk_frozen BK591.out 4
 have hfz20_5 := blk_frozen BK591.out 5
 have hfz20_6 := blk_frozen BK591.out 6
 have hfz20_7 := blk_frozen BK591.out 7
 have hfz20_8 := blk_frozen BK591.out 8
 have hcz21_0 : w16.cell? ⟨gb580, 0, none⟩ = some (.int .i64 a0_0) := (blk_cell BK580.out 0).trans rfl
 have hcz21_1 : w16.cell? ⟨gb580, 1, none⟩ = some (.int .i64 a0_1) := (blk_cell BK580.out 1).trans rfl
 have hcz21_2 : w16.cell? ⟨gb580, 2, none⟩ = some (.int .i64 a0_2) := (blk_cell BK580.out 2).trans rfl
 have hcz21_3 : w16.cell? ⟨gb580, 3, none⟩ = some (.string a0_3) := (blk_cell BK580.out 3).trans rfl
 have hcz21_4 : w16.cell? ⟨gb580, 4, none⟩ = some (.string a0_4) := (blk_cell BK580.out 4).trans rfl
 have hcz21_5 : w16.cell? ⟨gb580, 5, none⟩ = some (.string a0_5) := (blk_cell BK580.out 5).trans rfl
 have hfz21_0 := blk_frozen BK580.out 0
 have hfz21_1 := blk_frozen BK580.out 1
 have hfz21_2 := blk_frozen BK580.out 2
 have hfz21_3 := blk_frozen BK580.out 3
 have hfz21_4 := blk_frozen BK580.out 4
 have hfz21_5 := blk_frozen BK580.out 5
 have hcz22_0 : w16.cell? ⟨gb581, 0, none⟩ = some (.string (⟨#[]⟩ : ByteArray)) := (blk_cell BK581.out 0).trans rfl
 have hcz22_1 : w16.cell? ⟨gb581, 1, none⟩ = some (.string (⟨#[]⟩ : ByteArray)) := (blk_cell BK581.out 1).trans rfl
 have hcz22_2 : w16.cell? ⟨gb581, 2, none⟩ = some (.string (⟨#[]⟩ : ByteArray)) := (blk_cell BK581.out 2).trans rfl
 have hcz22_3 : w16.cell? ⟨gb581, 3, none⟩ = some (.int .i64 0) := (blk_cell BK581.out 3).trans rfl
 have hcz22_4 : w16.cell? ⟨gb581, 4, none⟩ = some (.int .i64 0) := (blk_cell BK581.out 4).trans rfl
 have hcz22_5 : w16.cell? ⟨gb581, 5, none⟩ = some (.int .i64 0) := (blk_cell BK581.out 5).trans rfl
 have hfz22_0 := blk_frozen BK581.out 0
 have hfz22_1 := blk_frozen BK581.out 1
 have hfz22_2 := blk_frozen BK581.out 2
 have hfz22_3 := blk_frozen BK581.out 3
 have hfz22_4 := blk_frozen BK581.out 4
 have hfz22_5 := blk_frozen BK581.out 5
 try go_wp2
 refine bodyPost_ret (results_cell_row rfl _ _ gb581 86 #[.string t592, .string t593, .string t594, .int .i64 (wrap64 (Int.tmod (IntKind.u64.wrap (a0_0)) 3)), .int .i64 (wrap64 (7 + (wrap64 (Int.tmod (IntKind.u64.wrap (a0_1)) 58)))), .int .i64 0] (0, 0) _ rfl (by (with_reducible repeat (first | refine blk_drewN ?_ _ | refine blk_drew ?_ | refine blk_alloc ?_ _)); refine blk_put (cs := #[.string t592, .string t593, .string t594, .int .i64 (wrap64 (Int.tmod (IntKind.u64.wrap (a0_0)) 3)), .int .i64 (wrap64 (7 + (wrap64 (Int.tmod (IntKind.u64.wrap (a0_1)) 58)))), .int .i64 0]) ?_ 5 _ rfl; (with_reducible repeat (first | refine blk_drewN ?_ _ | refine blk_drew ?_ | refine blk_alloc ?_ _)); refine blk_put (cs := #[.string t592, .string t593, .string t594, .int .i64 (wrap64 (Int.tmod (IntKind.u64.wrap (a0_0)) 3)), .int .i64 0, .int .i64 0]) ?_ 4 _ rfl; (with_reducible repeat (first | refine blk_drewN ?_ _ | refine blk_drew ?_ | refine blk_alloc ?_ _)); refine blk_put (cs := #[.string t592, .string t593, .string t594, .int .i64 0, .int .i64 0, .int .i64 0]) ?_ 3 _ rfl; (with_reducible repeat (first | refine blk_drewN ?_ _ | refine blk_drew ?_ | refine blk_alloc ?_ _)); refine blk_put (cs := #[.string t592, .string t593, .string (⟨#[]⟩ : ByteArray), .int .i64 0, .int .i64 0, .int .i64 0]) ?_ 2 _ rfl; (with_reducible repeat (first | refine blk_drewN ?_ _ | refine blk_drew ?_ | refine blk_alloc ?_ _)); refine blk_put (cs := #[.string t592, .string (⟨#[]⟩ : ByteArray), .string (⟨#[]⟩ : ByteArray), .int .i64 0, .int .i64 0, .int .i64 0]) ?_ 1 _ rfl; (with_reducible repeat (first | refine blk_drewN ?_ _ | refine blk_drew ?_ | refine blk_alloc ?_ _)); refine blk_put (cs := #[.string (⟨#[]⟩ : ByteArray), .string (⟨#[]⟩ : ByteArray), .string (⟨#[]⟩ : ByteArray), .int .i64 0, .int .i64 0, .int .i64 0]) ?_ 0 _ rfl; (with_reducible repeat (first | refine blk_drewN ?_ _ | refine blk_drew ?_ | refine blk_alloc ?_ _)); refine blk_far ?_ NB581_591.out _; (with_reducible repeat (first | refine blk_drewN ?_ _ | refine blk_drew ?_ | refine blk_alloc ?_ _)); refine blk_far ?_ NB581_591.out _; (with_reducible repeat (first | refine blk_drewN ?_ _ | refine blk_drew ?_ | refine blk_alloc ?_ _)); refine blk_far ?_ NB581_591.out _; (with_reducible repeat (first | refine blk_drewN ?_ _ | refine blk_drew ?_ | refine blk_alloc ?_ _)); exact BK581.out) Try.underlying86 rfl (by kernel_rfl)) rfl ?_
 exact ⟨by first | rfl | (simp [errW_none, errW_some] <;> rfl) | (simp [*, errW_none, errW_some] <;> rfl), by repeat (first | (with_reducible first | exact HB.out | apply below_alloc | apply pw_below_drewN | apply below_drew1 | refine below_set ?_ GE580.out | refine below_set ?_ GE581.out | refine below_set ?_ GE591.out) | exact HB.out)⟩
end Go.Proofs.Ytfiamddinkokbaa.F
end

section
set_option linter.unusedVariables false
set_option linter.unusedSimpArgs false
namespace Go.Proofs.Ytfiamddinkokbaa.F
open Go.RowKit Go.Proofs.YtfiamddinkokbaaW.PrintWords Go.Proofs.YtfiamddinkokbaaW.PrintLast Go.Proofs.YtfiamddinkokbaaW.PrintMore
attribute [local go_sem] max2_int min2_int max_two min_two max_three min_three max_four min_four
set_option linter.unusedVariables false
set_option linter.unusedSimpArgs false
def tripartitelaw12_Short.f (a0 : ByteArray) : Option (ByteArray) := if 0 ≤ (mn (a0.size : Int) 250) then (if (mn (a0.size : Int) 250) ≤ (a0.size : Int) then (some (a0.extract 0 ((mn (a0.size : Int) 250) : Int).toNat)) else (none)) else (none)
set_option maxHeartbeats 8000000 in
set_option maxRecDepth 100000 in
theorem tripartitelaw12_Short.calls (a0 : ByteArray) (r : ByteArray) (w : World) (h : tripartitelaw12_Short.f a0 = some r) :
  Calls Try.prog 57 #[.string a0] w fun e w' => e = .returned (.string r) ∧ Below w.heap.size w w' := by
 have HB := Aside0.mk (Below.refl w.heap.size w)
 have H : (if 0 ≤ (mn (a0.size : Int) 250) then (if (mn (a0.size : Int) 250) ≤ (a0.size : Int) then (some (a0.extract 0 ((mn (a0.size : Int) 250) : Int).toNat)) else (none)) else (none)) = some r := h
 clear h
 obtain ⟨ji2, hji2⟩ : ∃ j_ : Int, (mn (a0.size : Int) 250) = j_ := ⟨_, rfl⟩
 replace H : (if 0 ≤ (ji2) then (if (ji2) ≤ (a0.size : Int) then (some (a0.extract 0 ((ji2) : Int).toNat)) else (none)) else (none)) = some r := by first | (rw [hji2] at H; exact H) | (simp only [hji2] at H ⊢; exact H)
 (try (have hji2h : ji2 ≤ 250 := by (rw [← hji2]; unfold mn; (repeat' split) <;> omega)))
 (try (have hji2g : ji2 ≤ 64 := by omega))
 (try (have hji2l : 0 ≤ ji2 := by (rw [← hji2]; unfold mn; (repeat' split) <;> omega)))
 (try (have hji2m : 0 ≤ ji2 := by omega))
 have hji2_ : (if 250 < (a0.size : Int) then 250 else (a0.size : Int)) = ji2 := hji2
 by_cases c3 : 0 ≤ (ji2)
 ·rw [if_pos c3] at H
  have c3b0 := eq_true c3
  have c3b1 : decide (0 ≤ (ji2)) = true := decide_eq_true c3
  clear c3
  by_cases c4 : (ji2) ≤ (a0.size : Int)
  ·rw [if_pos c4] at H
   have c4b0 := eq_true c4
   have c4b1 : decide ((ji2) ≤ (a0.size : Int)) = true := decide_eq_true c4
   clear c4
   obtain rfl := Option.some.inj H
   go_enter Try.func57, Try.ntmps57
   go_wp2
   go_ret
   exact ⟨by first | rfl | (simp [errW_none, errW_some] <;> rfl) | (simp only [← hji2]; first | rfl | (simp [errW_none, errW_some] <;> rfl)) | (simp [*, errW_none, errW_some] <;> rfl), by repeat (first | (with_reducible first | exact HB.out | apply below_alloc | apply pw_below_drewN | apply below_drew1) | exact HB.out)⟩
  ·rw [if_neg c4] at H
   exact absurd H (by simp)
 ·rw [if_neg c3] at H
  exact absurd H (by simp)
end Go.Proofs.Ytfiamddinkokbaa.F
end

section
set_option linter.unusedVariables false
set_option linter.unusedSimpArgs false
namespace Go.Proofs.Ytfiamddinkokbaa.F
open Go.RowKit Go.Proofs.YtfiamddinkokbaaW.PrintWords Go.Proofs.YtfiamddinkokbaaW.PrintLast Go.Proofs.YtfiamddinkokbaaW.PrintMore
attribute [local go_sem] max2_int min2_int max_two min_two max_three min_three max_four min_four
set_option linter.unusedVariables false
set_option linter.unusedSimpArgs false
def tripartitelaw12_few.f (a0_0 : Int) (a0_1 : Int) (a0_2 : Int) (a0_3 : ByteArray) (a0_4 : ByteArray) (a0_5 : ByteArray) : Option (Bool) := some (decide ((wrap64 ((wrap64 ((a0_3.size : Int) + (a0_4.size : Int))) + (a0_5.size : Int))) ≤ 500))
set_option maxHeartbeats 8000000 in
set_option maxRecDepth 100000 in
theorem tripartitelaw12_few.calls (a0_0 : Int) (a0_1 : Int) (a0_2 : Int) (a0_3 : ByteArray) (a0_4 : ByteArray) (a0_5 : ByteArray) (r : Bool) (w : World) (h : tripartitelaw12_few.f a0_0 a0_1 a0_2 a0_3 a0_4 a0_5 = some r) :
  Calls Try.prog 68 #[.agg #[.int .i64 a0_0, .int .i64 a0_1, .int .i64 a0_2, .string a0_3, .string a0_4, .string a0_5]] w fun e w' => e = .returned (.bool r) ∧ Below w.heap.size w w' := by
 have hu74 := Try.underlying74
 have HB := Aside0.mk (Below.refl w.heap.size w)
 have H : (some (decide ((wrap64 ((wrap64 ((a0_3.size : Int) + (a0_4.size : Int))) + (a0_5.size : Int))) ≤ 500))) = some r := h
 clear h
 obtain rfl := Option.some.inj H
 go_enter Try.func68, Try.ntmps68
 go_wp2_with (first | ((with_reducible refine gate_dst (N := 1) rfl ?_); refine box_event ?hg (N := 1) ?hd (cs := #[.int .i64 a0_0, .int .i64 a0_1, .int .i64 a0_2, .string a0_3, .string a0_4, .string a0_5]) (t := 74) ?hr ?_; (case hd => rfl); (case hg => rfl); (case hr => first | (go_simp; done) | (go_simp; rfl)); intro gb751 hg w2 hbox hb; have n0_ := Aside0.mk (below_step (by repeat (first | (with_reducible first | exact HB.out | apply below_alloc | apply pw_below_drewN | apply below_drew1) | exact HB.out)) hb); have n1_ := Aside0.mk (hbox); have n2_ := Aside0.mk ((by rw [hg]; exact (below_size (by repeat (first | (with_reducible first | exact HB.out | apply below_alloc | apply pw_below_drewN | apply below_drew1) | exact HB.out))) : w.heap.size ≤ gb751)); have n3_ := Aside0.mk ((by rw [hg]; exact (below_size (by repeat (first | (with_reducible first | exact HB.out | apply below_alloc | apply pw_below_drewN | apply below_drew1) | exact HB.out))) : w.heap.size ≤ gb751)); clear HB; have HB := n0_; have BK751 := n1_; have GW751 := n2_; have GE751 := n3_; clear n0_ n1_ n2_ n3_; clear hb hbox hg; have hcz3_0 : w2.cell? ⟨gb751, 0, none⟩ = some (.int .i64 a0_0) := (blk_cell BK751.out 0).trans rfl; have hcz3_1 : w2.cell? ⟨gb751, 1, none⟩ = some (.int .i64 a0_1) := (blk_cell BK751.out 1).trans rfl; have hcz3_2 : w2.cell? ⟨gb751, 2, none⟩ = some (.int .i64 a0_2) := (blk_cell BK751.out 2).trans rfl; have hcz3_3 : w2.cell? ⟨gb751, 3, none⟩ = some (.string a0_3) := (blk_cell BK751.out 3).trans rfl; have hcz3_4 : w2.cell? ⟨gb751, 4, none⟩ = some (.string a0_4) := (blk_cell BK751.out 4).trans rfl; have hcz3_5 : w2.cell? ⟨gb751, 5, none⟩ = some (.string a0_5) := (blk_cell BK751.out 5).trans rfl; have hfz3_0 := blk_frozen BK751.out 0; have hfz3_1 := blk_frozen BK751.out 1; have hfz3_2 := blk_frozen BK751.out 2; have hfz3_3 := blk_frozen BK751.out 3; have hfz3_4 := blk_frozen BK751.out 4; have hfz3_5 := blk_frozen BK751.out 5))
 go_ret
 exact ⟨by first | rfl | (simp [errW_none, errW_some] <;> rfl) | (simp [*, errW_none, errW_some] <;> rfl), by repeat (first | (with_reducible first | exact HB.out | apply below_alloc | apply pw_below_drewN | apply below_drew1 | refine below_set ?_ GE751.out) | exact HB.out)⟩
end Go.Proofs.Ytfiamddinkokbaa.F
end
