/- Texts joined into one file (wip/tools/pack.py): Fn113, Fn114, Fn72, Fn71, Fits, Fn73, MarkPrint, Fn47 -/
import Derived.Test.YtfiamddinkokbaaMW1
import Derived.Shelf.SlicesQ.IndexFunc
import Derived.Deep.RegionHeld3
section
set_option linter.unusedVariables false
set_option linter.unusedSimpArgs false
namespace Go.Proofs.Ytfiamddinkokbaa.F
open Go.RowKit Go.Proofs.YtfiamddinkokbaaW.PrintWords Go.Proofs.YtfiamddinkokbaaW.PrintLast Go.Proofs.YtfiamddinkokbaaW.PrintMore
attribute [local go_sem] max2_int min2_int max_two min_two max_three min_three max_four min_four
set_option linter.unusedVariables false
set_option linter.unusedSimpArgs false
def doc_Part_isConflict.f (a0_0 : ByteArray) (a0_1 : ByteArray) (a0_2 : ByteArray) (a0_3 : Bool) (a0_4 : ByteArray) (a0_5 : ByteArray) (a0_6 : ByteArray) (a0_7 : ByteArray) (a0_8 : Bool) : Option (Bool) := if a0_3 = true then (if a0_4.toList = ([] : List UInt8) then (if a0_8 = true then (some true) else (if a0_6.size + a0_1.size ≤ 9223372036854775807 then (some ((a0_6 ++ a0_1).toList == ([] : List UInt8))) else (none))) else (some false)) else (some false)
set_option maxHeartbeats 8000000 in
set_option maxRecDepth 100000 in
theorem doc_Part_isConflict.calls (a0_0 : ByteArray) (a0_1 : ByteArray) (a0_2 : ByteArray) (a0_3 : Bool) (a0_4 : ByteArray) (a0_5 : ByteArray) (a0_6 : ByteArray) (a0_7 : ByteArray) (a0_8 : Bool) (r : Bool) (w : World) (h : doc_Part_isConflict.f a0_0 a0_1 a0_2 a0_3 a0_4 a0_5 a0_6 a0_7 a0_8 = some r) :
    Calls Try.prog 113 #[.agg #[.string a0_0, .string a0_1, .string a0_2, .bool a0_3, .string a0_4, .string a0_5, .string a0_6, .string a0_7, .bool a0_8]] w fun e w' => e = .returned (.bool r) ∧ Below w.heap.size w w' := by
  have hu106 := Try.underlying106
  have HB := Aside0.mk (Below.refl w.heap.size w)
  have H : (if a0_3 = true then (if a0_4.toList = ([] : List UInt8) then (if a0_8 = true then (some true) else (if a0_6.size + a0_1.size ≤ 9223372036854775807 then (some ((a0_6 ++ a0_1).toList == ([] : List UInt8))) else (none))) else (some false)) else (some false)) = some r := h
  clear h
  by_cases c2 : a0_3 = true
  · subst c2
    have H1 : (if a0_4.toList = ([] : List UInt8) then (if a0_8 = true then (some true) else (if a0_6.size + a0_1.size ≤ 9223372036854775807 then (some ((a0_6 ++ a0_1).toList == ([] : List UInt8))) else (none))) else (some false)) = some r := by rw [if_pos rfl] at H; exact H
    clear H
    have H := H1
    clear H1
    by_cases c3 : a0_4.toList = ([] : List UInt8)
    · rw [if_pos c3] at H
      have c3b0 : (a0_4.toList == ([] : List UInt8)) = true := beq_iff_eq.mpr c3
      have c3b1 : (a0_4.toList != ([] : List UInt8)) = false := bne_eq_false_iff_eq.mpr c3
      clear c3
      by_cases c4 : a0_8 = true
      · subst c4
        have H1 : (some true) = some r := by rw [if_pos rfl] at H; exact H
        clear H
        have H := H1
        clear H1
        obtain rfl := Option.some.inj H
        go_enter Try.func113, Try.ntmps113
        go_wp2_with (first | ((with_reducible refine gate_dst (N := 1) rfl ?_); refine box_event ?hg (N := 1) ?hd (cs := #[.string a0_0, .string a0_1, .string a0_2, .bool true, .string a0_4, .string a0_5, .string a0_6, .string a0_7, .bool true]) (t := 106) ?hr ?_; (case hd => rfl); (case hg => rfl); (case hr => first | (go_simp; done) | (go_simp; rfl)); intro gb132 hg w5 hbox hb; have n0_ := Aside0.mk (below_step (by repeat (first | (with_reducible first | exact HB.out | apply below_alloc | apply pw_below_drewN | apply below_drew1) | exact HB.out)) hb); have n1_ := Aside0.mk (hbox); have n2_ := Aside0.mk ((by rw [hg]; exact (below_size (by repeat (first | (with_reducible first | exact HB.out | apply below_alloc | apply pw_below_drewN | apply below_drew1) | exact HB.out))) : w.heap.size ≤ gb132)); have n3_ := Aside0.mk ((by rw [hg]; exact (below_size (by repeat (first | (with_reducible first | exact HB.out | apply below_alloc | apply pw_below_drewN | apply below_drew1) | exact HB.out))) : w.heap.size ≤ gb132)); clear HB; have HB := n0_; have BK132 := n1_; have GW132 := n2_; have GE132 := n3_; clear n0_ n1_ n2_ n3_; clear hb hbox hg; have hcz6_0 : w5.cell? ⟨gb132, 0, none⟩ = some (.string a0_0) := (blk_cell BK132.out 0).trans rfl; have hcz6_1 : w5.cell? ⟨gb132, 1, none⟩ = some (.string a0_1) := (blk_cell BK132.out 1).trans rfl; have hcz6_2 : w5.cell? ⟨gb132, 2, none⟩ = some (.string a0_2) := (blk_cell BK132.out 2).trans rfl; have hcz6_3 : w5.cell? ⟨gb132, 3, none⟩ = some (.bool true) := (blk_cell BK132.out 3).trans rfl; have hcz6_4 : w5.cell? ⟨gb132, 4, none⟩ = some (.string a0_4) := (blk_cell BK132.out 4).trans rfl; have hcz6_5 : w5.cell? ⟨gb132, 5, none⟩ = some (.string a0_5) := (blk_cell BK132.out 5).trans rfl; have hcz6_6 : w5.cell? ⟨gb132, 6, none⟩ = some (.string a0_6) := (blk_cell BK132.out 6).trans rfl; have hcz6_7 : w5.cell? ⟨gb132, 7, none⟩ = some (.string a0_7) := (blk_cell BK132.out 7).trans rfl; have hcz6_8 : w5.cell? ⟨gb132, 8, none⟩ = some (.bool true) := (blk_cell BK132.out 8).trans rfl; have hfz6_0 := blk_frozen BK132.out 0; have hfz6_1 := blk_frozen BK132.out 1; have hfz6_2 := blk_frozen BK132.out 2; have hfz6_3 := blk_frozen BK132.out 3; have hfz6_4 := blk_frozen BK132.out 4; have hfz6_5 := blk_frozen BK132.out 5; have hfz6_6 := blk_frozen BK132.out 6; have hfz6_7 := blk_frozen BK132.out 7; have hfz6_8 := blk_frozen BK132.out 8))
        go_ret
        exact ⟨by first | rfl | (simp [errW_none, errW_some] <;> rfl) | (simp [*, errW_none, errW_some] <;> rfl), by repeat (first | (with_reducible first | exact HB.out | apply below_alloc | apply pw_below_drewN | apply below_drew1 | refine below_set ?_ GE132.out) | exact HB.out)⟩
      · replace c4 := Bool.eq_false_iff.mpr c4
        subst c4
        have H1 : (if a0_6.size + a0_1.size ≤ 9223372036854775807 then (some ((a0_6 ++ a0_1).toList == ([] : List UInt8))) else (none)) = some r := by rw [if_neg (show ¬ (false = true) by decide)] at H; exact H
        clear H
        have H := H1
        clear H1
        by_cases c7 : a0_6.size + a0_1.size ≤ 9223372036854775807
        · rw [if_pos c7] at H
          have c7b0 := eq_true c7
          have c7b1 : decide (a0_6.size + a0_1.size ≤ 9223372036854775807) = true := decide_eq_true c7
          try have c7b2 : (9223372036854775807 < a0_6.size + a0_1.size) = False := eq_false (Nat.not_lt.2 c7)
          obtain rfl := Option.some.inj H
          go_enter Try.func113, Try.ntmps113
          go_wp2_with (first | ((with_reducible refine gate_dst (N := 1) rfl ?_); refine box_event ?hg (N := 1) ?hd (cs := #[.string a0_0, .string a0_1, .string a0_2, .bool true, .string a0_4, .string a0_5, .string a0_6, .string a0_7, .bool false]) (t := 106) ?hr ?_; (case hd => rfl); (case hg => rfl); (case hr => first | (go_simp; done) | (go_simp; rfl)); intro gb132 hg w8 hbox hb; have n0_ := Aside0.mk (below_step (by repeat (first | (with_reducible first | exact HB.out | apply below_alloc | apply pw_below_drewN | apply below_drew1) | exact HB.out)) hb); have n1_ := Aside0.mk (hbox); have n2_ := Aside0.mk ((by rw [hg]; exact (below_size (by repeat (first | (with_reducible first | exact HB.out | apply below_alloc | apply pw_below_drewN | apply below_drew1) | exact HB.out))) : w.heap.size ≤ gb132)); have n3_ := Aside0.mk ((by rw [hg]; exact (below_size (by repeat (first | (with_reducible first | exact HB.out | apply below_alloc | apply pw_below_drewN | apply below_drew1) | exact HB.out))) : w.heap.size ≤ gb132)); clear HB; have HB := n0_; have BK132 := n1_; have GW132 := n2_; have GE132 := n3_; clear n0_ n1_ n2_ n3_; clear hb hbox hg; have hcz9_0 : w8.cell? ⟨gb132, 0, none⟩ = some (.string a0_0) := (blk_cell BK132.out 0).trans rfl; have hcz9_1 : w8.cell? ⟨gb132, 1, none⟩ = some (.string a0_1) := (blk_cell BK132.out 1).trans rfl; have hcz9_2 : w8.cell? ⟨gb132, 2, none⟩ = some (.string a0_2) := (blk_cell BK132.out 2).trans rfl; have hcz9_3 : w8.cell? ⟨gb132, 3, none⟩ = some (.bool true) := (blk_cell BK132.out 3).trans rfl; have hcz9_4 : w8.cell? ⟨gb132, 4, none⟩ = some (.string a0_4) := (blk_cell BK132.out 4).trans rfl; have hcz9_5 : w8.cell? ⟨gb132, 5, none⟩ = some (.string a0_5) := (blk_cell BK132.out 5).trans rfl; have hcz9_6 : w8.cell? ⟨gb132, 6, none⟩ = some (.string a0_6) := (blk_cell BK132.out 6).trans rfl; have hcz9_7 : w8.cell? ⟨gb132, 7, none⟩ = some (.string a0_7) := (blk_cell BK132.out 7).trans rfl; have hcz9_8 : w8.cell? ⟨gb132, 8, none⟩ = some (.bool false) := (blk_cell BK132.out 8).trans rfl; have hfz9_0 := blk_frozen BK132.out 0; have hfz9_1 := blk_frozen BK132.out 1; have hfz9_2 := blk_frozen BK132.out 2; have hfz9_3 := blk_frozen BK132.out 3; have hfz9_4 := blk_frozen BK132.out 4; have hfz9_5 := blk_frozen BK132.out 5; have hfz9_6 := blk_frozen BK132.out 6; have hfz9_7 := blk_frozen BK132.out 7; have hfz9_8 := blk_frozen BK132.out 8))
          go_ret
          exact ⟨by first | rfl | (simp [errW_none, errW_some] <;> rfl) | (simp [*, errW_none, errW_some] <;> rfl), by repeat (first | (with_reducible first | exact HB.out | apply below_alloc | apply pw_below_drewN | apply below_drew1 | refine below_set ?_ GE132.out) | exact HB.out)⟩
        · rw [if_neg c7] at H
          exact absurd H (by simp)
    · rw [if_neg c3] at H
      have c3b0 : (a0_4.toList == ([] : List UInt8)) = false := beq_eq_false_iff_ne.mpr c3
      have c3b1 : (a0_4.toList != ([] : List UInt8)) = true := bne_iff_ne.mpr c3
      obtain rfl := Option.some.inj H
      go_enter Try.func113, Try.ntmps113
      go_wp2_with (first | ((with_reducible refine gate_dst (N := 1) rfl ?_); refine box_event ?hg (N := 1) ?hd (cs := #[.string a0_0, .string a0_1, .string a0_2, .bool true, .string a0_4, .string a0_5, .string a0_6, .string a0_7, .bool a0_8]) (t := 106) ?hr ?_; (case hd => rfl); (case hg => rfl); (case hr => first | (go_simp; done) | (go_simp; rfl)); intro gb132 hg w10 hbox hb; have n0_ := Aside0.mk (below_step (by repeat (first | (with_reducible first | exact HB.out | apply below_alloc | apply pw_below_drewN | apply below_drew1) | exact HB.out)) hb); have n1_ := Aside0.mk (hbox); have n2_ := Aside0.mk ((by rw [hg]; exact (below_size (by repeat (first | (with_reducible first | exact HB.out | apply below_alloc | apply pw_below_drewN | apply below_drew1) | exact HB.out))) : w.heap.size ≤ gb132)); have n3_ := Aside0.mk ((by rw [hg]; exact (below_size (by repeat (first | (with_reducible first | exact HB.out | apply below_alloc | apply pw_below_drewN | apply below_drew1) | exact HB.out))) : w.heap.size ≤ gb132)); clear HB; have HB := n0_; have BK132 := n1_; have GW132 := n2_; have GE132 := n3_; clear n0_ n1_ n2_ n3_; clear hb hbox hg; have hcz11_0 : w10.cell? ⟨gb132, 0, none⟩ = some (.string a0_0) := (blk_cell BK132.out 0).trans rfl; have hcz11_1 : w10.cell? ⟨gb132, 1, none⟩ = some (.string a0_1) := (blk_cell BK132.out 1).trans rfl; have hcz11_2 : w10.cell? ⟨gb132, 2, none⟩ = some (.string a0_2) := (blk_cell BK132.out 2).trans rfl; have hcz11_3 : w10.cell? ⟨gb132, 3, none⟩ = some (.bool true) := (blk_cell BK132.out 3).trans rfl; have hcz11_4 : w10.cell? ⟨gb132, 4, none⟩ = some (.string a0_4) := (blk_cell BK132.out 4).trans rfl; have hcz11_5 : w10.cell? ⟨gb132, 5, none⟩ = some (.string a0_5) := (blk_cell BK132.out 5).trans rfl; have hcz11_6 : w10.cell? ⟨gb132, 6, none⟩ = some (.string a0_6) := (blk_cell BK132.out 6).trans rfl; have hcz11_7 : w10.cell? ⟨gb132, 7, none⟩ = some (.string a0_7) := (blk_cell BK132.out 7).trans rfl; have hcz11_8 : w10.cell? ⟨gb132, 8, none⟩ = some (.bool a0_8) := (blk_cell BK132.out 8).trans rfl; have hfz11_0 := blk_frozen BK132.out 0; have hfz11_1 := blk_frozen BK132.out 1; have hfz11_2 := blk_frozen BK132.out 2; have hfz11_3 := blk_frozen BK132.out 3; have hfz11_4 := blk_frozen BK132.out 4; have hfz11_5 := blk_frozen BK132.out 5; have hfz11_6 := blk_frozen BK132.out 6; have hfz11_7 := blk_frozen BK132.out 7; have hfz11_8 := blk_frozen BK132.out 8))
      go_ret
      exact ⟨by first | rfl | (simp [errW_none, errW_some] <;> rfl) | (simp [*, errW_none, errW_some] <;> rfl), by repeat (first | (with_reducible first | exact HB.out | apply below_alloc | apply pw_below_drewN | apply below_drew1 | refine below_set ?_ GE132.out) | exact HB.out)⟩
  · replace c2 := Bool.eq_false_iff.mpr c2
    subst c2
    have H1 : (some false) = some r := by rw [if_neg (show ¬ (false = true) by decide)] at H; exact H
    clear H
    have H := H1
    clear H1
    obtain rfl := Option.some.inj H
    go_enter Try.func113, Try.ntmps113
    go_wp2_with (first | ((with_reducible refine gate_dst (N := 1) rfl ?_); refine box_event ?hg (N := 1) ?hd (cs := #[.string a0_0, .string a0_1, .string a0_2, .bool false, .string a0_4, .string a0_5, .string a0_6, .string a0_7, .bool a0_8]) (t := 106) ?hr ?_; (case hd => rfl); (case hg => rfl); (case hr => first | (go_simp; done) | (go_simp; rfl)); intro gb132 hg w12 hbox hb; have n0_ := Aside0.mk (below_step (by repeat (first | (with_reducible first | exact HB.out | apply below_alloc | apply pw_below_drewN | apply below_drew1) | exact HB.out)) hb); have n1_ := Aside0.mk (hbox); have n2_ := Aside0.mk ((by rw [hg]; exact (below_size (by repeat (first | (with_reducible first | exact HB.out | apply below_alloc | apply pw_below_drewN | apply below_drew1) | exact HB.out))) : w.heap.size ≤ gb132)); have n3_ := Aside0.mk ((by rw [hg]; exact (below_size (by repeat (first | (with_reducible first | exact HB.out | apply below_alloc | apply pw_below_drewN | apply below_drew1) | exact HB.out))) : w.heap.size ≤ gb132)); clear HB; have HB := n0_; have BK132 := n1_; have GW132 := n2_; have GE132 := n3_; clear n0_ n1_ n2_ n3_; clear hb hbox hg; have hcz13_0 : w12.cell? ⟨gb132, 0, none⟩ = some (.string a0_0) := (blk_cell BK132.out 0).trans rfl; have hcz13_1 : w12.cell? ⟨gb132, 1, none⟩ = some (.string a0_1) := (blk_cell BK132.out 1).trans rfl; have hcz13_2 : w12.cell? ⟨gb132, 2, none⟩ = some (.string a0_2) := (blk_cell BK132.out 2).trans rfl; have hcz13_3 : w12.cell? ⟨gb132, 3, none⟩ = some (.bool false) := (blk_cell BK132.out 3).trans rfl; have hcz13_4 : w12.cell? ⟨gb132, 4, none⟩ = some (.string a0_4) := (blk_cell BK132.out 4).trans rfl; have hcz13_5 : w12.cell? ⟨gb132, 5, none⟩ = some (.string a0_5) := (blk_cell BK132.out 5).trans rfl; have hcz13_6 : w12.cell? ⟨gb132, 6, none⟩ = some (.string a0_6) := (blk_cell BK132.out 6).trans rfl; have hcz13_7 : w12.cell? ⟨gb132, 7, none⟩ = some (.string a0_7) := (blk_cell BK132.out 7).trans rfl; have hcz13_8 : w12.cell? ⟨gb132, 8, none⟩ = some (.bool a0_8) := (blk_cell BK132.out 8).trans rfl; have hfz13_0 := blk_frozen BK132.out 0; have hfz13_1 := blk_frozen BK132.out 1; have hfz13_2 := blk_frozen BK132.out 2; have hfz13_3 := blk_frozen BK132.out 3; have hfz13_4 := blk_frozen BK132.out 4; have hfz13_5 := blk_frozen BK132.out 5; have hfz13_6 := blk_frozen BK132.out 6; have hfz13_7 := blk_frozen BK132.out 7; have hfz13_8 := blk_frozen BK132.out 8))
    go_ret
    exact ⟨by first | rfl | (simp [errW_none, errW_some] <;> rfl) | (simp [*, errW_none, errW_some] <;> rfl), by repeat (first | (with_reducible first | exact HB.out | apply below_alloc | apply pw_below_drewN | apply below_drew1 | refine below_set ?_ GE132.out) | exact HB.out)⟩
end Go.Proofs.Ytfiamddinkokbaa.F
end

section
set_option linter.unusedVariables false
set_option linter.unusedSimpArgs false
namespace Go.Proofs.Ytfiamddinkokbaa.F
open Go.RowKit Go.Proofs.YtfiamddinkokbaaW.PrintWords Go.Proofs.YtfiamddinkokbaaW.PrintLast Go.Proofs.YtfiamddinkokbaaW.PrintMore
attribute [local go_sem] max2_int min2_int max_two min_two max_three min_three max_four min_four
set_option linter.unusedVariables false
set_option linter.unusedSimpArgs false
def doc_Labels_Plain.f (a0_0 : ByteArray) (a0_1 : ByteArray) (a0_2 : ByteArray) : Option (Bool) := if a0_0.size + a0_1.size ≤ 9223372036854775807 then (if (a0_0 ++ a0_1).size + a0_2.size ≤ 9223372036854775807 then ((strings_Contains.f ((a0_0 ++ a0_1) ++ a0_2) (⟨#[10]⟩ : ByteArray)).bind fun t134 => (some (!t134))) else (none)) else (none)
set_option maxHeartbeats 8000000 in
set_option maxRecDepth 100000 in
theorem doc_Labels_Plain.calls (a0_0 : ByteArray) (a0_1 : ByteArray) (a0_2 : ByteArray) (r : Bool) (w : World) (h : doc_Labels_Plain.f a0_0 a0_1 a0_2 = some r) :
    Calls Try.prog 114 #[.agg #[.string a0_0, .string a0_1, .string a0_2]] w fun e w' => e = .returned (.bool r) ∧ Below w.heap.size w w' := by
  have hu84 := Try.underlying84
  have HB := Aside0.mk (Below.refl w.heap.size w)
  have H : (if a0_0.size + a0_1.size ≤ 9223372036854775807 then (if (a0_0 ++ a0_1).size + a0_2.size ≤ 9223372036854775807 then ((strings_Contains.f ((a0_0 ++ a0_1) ++ a0_2) (⟨#[10]⟩ : ByteArray)).bind fun t134 => (some (!t134))) else (none)) else (none)) = some r := h
  clear h
  by_cases c2 : a0_0.size + a0_1.size ≤ 9223372036854775807
  · rw [if_pos c2] at H
    have c2b0 := eq_true c2
    have c2b1 : decide (a0_0.size + a0_1.size ≤ 9223372036854775807) = true := decide_eq_true c2
    try have c2b2 : (9223372036854775807 < a0_0.size + a0_1.size) = False := eq_false (Nat.not_lt.2 c2)
    by_cases c3 : (a0_0 ++ a0_1).size + a0_2.size ≤ 9223372036854775807
    · rw [if_pos c3] at H
      have c3b0 := eq_true c3
      have c3b1 : decide ((a0_0 ++ a0_1).size + a0_2.size ≤ 9223372036854775807) = true := decide_eq_true c3
      try have c3b2 : (9223372036854775807 < (a0_0 ++ a0_1).size + a0_2.size) = False := eq_false (Nat.not_lt.2 c3)
      try have c3b3 : (9223372036854775807 < a0_0.size + a0_1.size + a0_2.size) = False := eq_false (Nat.not_lt.2 (Nat.le_trans (Nat.le_of_eq (by first | rfl | (simp only [ByteArray.size_append]; done) | (simp only [ByteArray.size_append]; rfl))) c3))
      replace H := Option.bind_eq_some_iff.mp H
      obtain ⟨t134, A40, H⟩ := H
      replace H : (some (!t134)) = some r := H
      have A4 := Aside0.mk A40
      clear A40
      obtain rfl := Option.some.inj H
      go_enter Try.func114, Try.ntmps114
      go_wp2_with (first | ((with_reducible refine gate_dst (N := 1) rfl ?_); refine box_event ?hg (N := 1) ?hd (cs := #[.string a0_0, .string a0_1, .string a0_2]) (t := 84) ?hr ?_; (case hd => rfl); (case hg => rfl); (case hr => first | (go_simp; done) | (go_simp; rfl)); intro gb133 hg w5 hbox hb; have n0_ := Aside0.mk (below_step (by repeat (first | (with_reducible first | exact HB.out | apply below_alloc | apply pw_below_drewN | apply below_drew1) | exact HB.out)) hb); have n1_ := Aside0.mk (hbox); have n2_ := Aside0.mk ((by rw [hg]; exact (below_size (by repeat (first | (with_reducible first | exact HB.out | apply below_alloc | apply pw_below_drewN | apply below_drew1) | exact HB.out))) : w.heap.size ≤ gb133)); have n3_ := Aside0.mk ((by rw [hg]; exact (below_size (by repeat (first | (with_reducible first | exact HB.out | apply below_alloc | apply pw_below_drewN | apply below_drew1) | exact HB.out))) : w.heap.size ≤ gb133)); clear HB; have HB := n0_; have BK133 := n1_; have GW133 := n2_; have GE133 := n3_; clear n0_ n1_ n2_ n3_; clear hb hbox hg; have hcz6_0 : w5.cell? ⟨gb133, 0, none⟩ = some (.string a0_0) := (blk_cell BK133.out 0).trans rfl; have hcz6_1 : w5.cell? ⟨gb133, 1, none⟩ = some (.string a0_1) := (blk_cell BK133.out 1).trans rfl; have hcz6_2 : w5.cell? ⟨gb133, 2, none⟩ = some (.string a0_2) := (blk_cell BK133.out 2).trans rfl; have hfz6_0 := blk_frozen BK133.out 0; have hfz6_1 := blk_frozen BK133.out 1; have hfz6_2 := blk_frozen BK133.out 2) | ((with_reducible refine gate_callee (f := 84) rfl ?_); refine goesL_ (some 11) rfl rfl Try.func84 (by kernel_rfl) rfl #[.string ((a0_0 ++ a0_1) ++ a0_2), .string (⟨#[10]⟩ : ByteArray)] rfl (by (try simp only [List.map_toArray, List.map_cons, List.map_nil]); first | done | rfl | (simp only [List.length_drop, List.length_take]; rfl)) ?_; (with_reducible refine (strings_Contains.calls ((a0_0 ++ a0_1) ++ a0_2) (⟨#[10]⟩ : ByteArray) t134 _ A4.out).mono ?_); rintro e w' ⟨rfl, ⟨nd, rfl⟩⟩; refine ⟨_, rfl, ?_⟩))
      go_ret
      exact ⟨by first | rfl | (simp [errW_none, errW_some] <;> rfl) | (simp [*, errW_none, errW_some] <;> rfl), by repeat (first | (with_reducible first | exact HB.out | apply below_alloc | apply pw_below_drewN | apply below_drew1 | refine below_set ?_ GE133.out) | exact HB.out)⟩
    · rw [if_neg c3] at H
      exact absurd H (by simp)
  · rw [if_neg c2] at H
    exact absurd H (by simp)
end Go.Proofs.Ytfiamddinkokbaa.F
end

section
set_option linter.unusedVariables false
set_option linter.unusedSimpArgs false
namespace Go.Proofs.Ytfiamddinkokbaa.F
open Go.RowKit Go.Proofs.YtfiamddinkokbaaW.PrintWords Go.Proofs.YtfiamddinkokbaaW.PrintLast Go.Proofs.YtfiamddinkokbaaW.PrintMore
attribute [local go_sem] max2_int min2_int max_two min_two max_three min_three max_four min_four
set_option linter.unusedVariables false
set_option linter.unusedSimpArgs false
mutual
def doc_Doc_Right.l0 : Nat → List (S106) → Bool → List (S106) → Int → Int → Option (Bool)
  | 0, _, _, _, _, _ => none
  | k + 1, x0, x3, x6, x7, x8 => if x8 < x7 then (if 0 ≤ x8 then (if x8 < (x6.length : Int) then ((doc_Part_isText.f ((rd_T106 x6 x8).f0.f0) ((rd_T106 x6 x8).f0.f1) ((rd_T106 x6 x8).f0.f2) ((rd_T106 x6 x8).f1) ((rd_T106 x6 x8).f2) ((rd_T106 x6 x8).f3) ((rd_T106 x6 x8).f4) ((rd_T106 x6 x8).f5) ((rd_T106 x6 x8).f6)).bind fun t138 => (if t138 = true then (doc_Doc_Right.j1 k x0 x3 x8 x6 x7 x8 false ((rd_T106 x6 x8).f0.f0) ((rd_T106 x6 x8).f0.f1) ((rd_T106 x6 x8).f0.f2) ((rd_T106 x6 x8).f1) ((rd_T106 x6 x8).f2) ((rd_T106 x6 x8).f3) ((rd_T106 x6 x8).f4) ((rd_T106 x6 x8).f5) ((rd_T106 x6 x8).f6)) else ((doc_Part_isConflict.f ((rd_T106 x6 x8).f0.f0) ((rd_T106 x6 x8).f0.f1) ((rd_T106 x6 x8).f0.f2) ((rd_T106 x6 x8).f1) ((rd_T106 x6 x8).f2) ((rd_T106 x6 x8).f3) ((rd_T106 x6 x8).f4) ((rd_T106 x6 x8).f5) ((rd_T106 x6 x8).f6)).bind fun t139 => (doc_Doc_Right.j1 k x0 x3 x8 x6 x7 x8 (!t139) ((rd_T106 x6 x8).f0.f0) ((rd_T106 x6 x8).f0.f1) ((rd_T106 x6 x8).f0.f2) ((rd_T106 x6 x8).f1) ((rd_T106 x6 x8).f2) ((rd_T106 x6 x8).f3) ((rd_T106 x6 x8).f4) ((rd_T106 x6 x8).f5) ((rd_T106 x6 x8).f6))))) else (none)) else (none)) else (some true)
def doc_Doc_Right.j1 : Nat → List (S106) → Bool → Int → List (S106) → Int → Int → Bool → ByteArray → ByteArray → ByteArray → Bool → ByteArray → ByteArray → ByteArray → ByteArray → Bool → Option (Bool)
  | 0, _, _, _, _, _, _, _, _, _, _, _, _, _, _, _, _ => none
  | k + 1, x0, x3, x4, x6, x7, x8, x13, x138000, x138001, x138002, x138003, x138004, x138005, x138006, x138007, x138008 => if x13 = true then (doc_Doc_Right.j2 k x0 x3 x4 x6 x7 x8 x13 x138000 x138001 x138002 x138003 x138004 x138005 x138006 x138007 x138008) else ((doc_Labels_Plain.f x138000 x138001 x138002).bind fun t140 => (doc_Doc_Right.j2 k x0 x3 x4 x6 x7 x8 (!t140) x138000 x138001 x138002 x138003 x138004 x138005 x138006 x138007 x138008))
def doc_Doc_Right.j2 : Nat → List (S106) → Bool → Int → List (S106) → Int → Int → Bool → ByteArray → ByteArray → ByteArray → Bool → ByteArray → ByteArray → ByteArray → ByteArray → Bool → Option (Bool)
  | 0, _, _, _, _, _, _, _, _, _, _, _, _, _, _, _, _ => none
  | k + 1, x0, x3, x4, x6, x7, x8, x13, x138000, x138001, x138002, x138003, x138004, x138005, x138006, x138007, x138008 => if x13 = true then (some false) else ((doc_Part_isText.f x138000 x138001 x138002 x138003 x138004 x138005 x138006 x138007 x138008).bind fun t141 => (if t141 = true then (if x3 = true then (some false) else (if x138004.toList = ([] : List UInt8) then (some false) else (if x4 < (wrap64 ((x0.length : Int) - 1)) then ((strings_HasSuffix.f x138004 (⟨#[10]⟩ : ByteArray)).bind fun t142 => (if t142 = true then ((doc_Part_isText.f x138000 x138001 x138002 x138003 x138004 x138005 x138006 x138007 x138008).bind fun t143 => (doc_Doc_Right.l0 k x0 t143 x6 x7 (wrap64 (x8 + 1)))) else (some false))) else ((doc_Part_isText.f x138000 x138001 x138002 x138003 x138004 x138005 x138006 x138007 x138008).bind fun t144 => (doc_Doc_Right.l0 k x0 t144 x6 x7 (wrap64 (x8 + 1))))))) else ((doc_Part_isText.f x138000 x138001 x138002 x138003 x138004 x138005 x138006 x138007 x138008).bind fun t145 => (doc_Doc_Right.l0 k x0 t145 x6 x7 (wrap64 (x8 + 1))))))
end
def doc_Doc_Right.f (k : Nat) (l0 : List (S106)) : Option (Bool) := doc_Doc_Right.l0 k l0 false l0 (l0.length : Int) 0
theorem doc_Doc_Right.mono_l : ∀ k, (∀ y0 y1 y2 y3 y4, LeO (doc_Doc_Right.l0 k y0 y1 y2 y3 y4) (doc_Doc_Right.l0 (k + 1) y0 y1 y2 y3 y4)) ∧ (∀ y0 y1 y2 y3 y4 y5 y6 y7 y8 y9 y10 y11 y12 y13 y14 y15, LeO (doc_Doc_Right.j1 k y0 y1 y2 y3 y4 y5 y6 y7 y8 y9 y10 y11 y12 y13 y14 y15) (doc_Doc_Right.j1 (k + 1) y0 y1 y2 y3 y4 y5 y6 y7 y8 y9 y10 y11 y12 y13 y14 y15)) ∧ (∀ y0 y1 y2 y3 y4 y5 y6 y7 y8 y9 y10 y11 y12 y13 y14 y15, LeO (doc_Doc_Right.j2 k y0 y1 y2 y3 y4 y5 y6 y7 y8 y9 y10 y11 y12 y13 y14 y15) (doc_Doc_Right.j2 (k + 1) y0 y1 y2 y3 y4 y5 y6 y7 y8 y9 y10 y11 y12 y13 y14 y15))
  | 0 => ⟨fun _ _ _ _ _ r h => by simp [doc_Doc_Right.l0] at h, fun _ _ _ _ _ _ _ _ _ _ _ _ _ _ _ _ r h => by simp [doc_Doc_Right.j1] at h, fun _ _ _ _ _ _ _ _ _ _ _ _ _ _ _ _ r h => by simp [doc_Doc_Right.j2] at h⟩
  | k + 1 => by
    obtain ⟨ih0, ih1, ih2⟩ := doc_Doc_Right.mono_l k
    refine ⟨?_, ?_, ?_⟩
    · intro y0 y1 y2 y3 y4
      unfold doc_Doc_Right.l0
      repeat' first
      | (with_reducible exact ih0 _ _ _ _ _)
      | (with_reducible exact ih1 _ _ _ _ _ _ _ _ _ _ _ _ _ _ _ _)
      | (with_reducible exact ih2 _ _ _ _ _ _ _ _ _ _ _ _ _ _ _ _)
      | (with_reducible exact LeO.refl _)
      | (with_reducible exact LeO.none _)
      | (with_reducible refine LeO.ite ?_ ?_)
      | (with_reducible refine LeO.bind ?_ (fun _ => ?_))
      | exact ih0 _ _ _ _ _
      | exact ih1 _ _ _ _ _ _ _ _ _ _ _ _ _ _ _ _
      | exact ih2 _ _ _ _ _ _ _ _ _ _ _ _ _ _ _ _
      | exact LeO.none _
      | refine LeO.ite ?_ ?_
      | refine LeO.bind ?_ (fun _ => ?_)
    · intro y0 y1 y2 y3 y4 y5 y6 y7 y8 y9 y10 y11 y12 y13 y14 y15
      unfold doc_Doc_Right.j1
      repeat' first
      | (with_reducible exact ih0 _ _ _ _ _)
      | (with_reducible exact ih1 _ _ _ _ _ _ _ _ _ _ _ _ _ _ _ _)
      | (with_reducible exact ih2 _ _ _ _ _ _ _ _ _ _ _ _ _ _ _ _)
      | (with_reducible exact LeO.refl _)
      | (with_reducible exact LeO.none _)
      | (with_reducible refine LeO.ite ?_ ?_)
      | (with_reducible refine LeO.bind ?_ (fun _ => ?_))
      | exact ih0 _ _ _ _ _
      | exact ih1 _ _ _ _ _ _ _ _ _ _ _ _ _ _ _ _
      | exact ih2 _ _ _ _ _ _ _ _ _ _ _ _ _ _ _ _
      | exact LeO.none _
      | refine LeO.ite ?_ ?_
      | refine LeO.bind ?_ (fun _ => ?_)
    · intro y0 y1 y2 y3 y4 y5 y6 y7 y8 y9 y10 y11 y12 y13 y14 y15
      unfold doc_Doc_Right.j2
      repeat' first
      | (with_reducible exact ih0 _ _ _ _ _)
      | (with_reducible exact ih1 _ _ _ _ _ _ _ _ _ _ _ _ _ _ _ _)
      | (with_reducible exact ih2 _ _ _ _ _ _ _ _ _ _ _ _ _ _ _ _)
      | (with_reducible exact LeO.refl _)
      | (with_reducible exact LeO.none _)
      | (with_reducible refine LeO.ite ?_ ?_)
      | (with_reducible refine LeO.bind ?_ (fun _ => ?_))
      | exact ih0 _ _ _ _ _
      | exact ih1 _ _ _ _ _ _ _ _ _ _ _ _ _ _ _ _
      | exact ih2 _ _ _ _ _ _ _ _ _ _ _ _ _ _ _ _
      | exact LeO.none _
      | refine LeO.ite ?_ ?_
      | refine LeO.bind ?_ (fun _ => ?_)
theorem doc_Doc_Right.mono : ∀ a0 k, LeO (doc_Doc_Right.f k a0) (doc_Doc_Right.f (k + 1) a0) := by
  intro a0 k
  obtain ⟨ih0, ih1, ih2⟩ := doc_Doc_Right.mono_l k
  unfold doc_Doc_Right.f
  repeat' first
      | (with_reducible exact ih0 _ _ _ _ _)
      | (with_reducible exact ih1 _ _ _ _ _ _ _ _ _ _ _ _ _ _ _ _)
      | (with_reducible exact ih2 _ _ _ _ _ _ _ _ _ _ _ _ _ _ _ _)
      | (with_reducible exact LeO.refl _)
      | (with_reducible exact LeO.none _)
      | (with_reducible refine LeO.ite ?_ ?_)
      | (with_reducible refine LeO.bind ?_ (fun _ => ?_))
      | exact ih0 _ _ _ _ _
      | exact ih1 _ _ _ _ _ _ _ _ _ _ _ _ _ _ _ _
      | exact ih2 _ _ _ _ _ _ _ _ _ _ _ _ _ _ _ _
      | exact LeO.none _
      | refine LeO.ite ?_ ?_
      | refine LeO.bind ?_ (fun _ => ?_)
set_option maxHeartbeats 8000000 in
set_option maxRecDepth 100000 in
theorem doc_Doc_Right.calls (k : Nat) (A0 : Option Addr) (c0 : Nat) (l0 : List (S106)) (r : Bool) (w : World) (hr0 : Kd.C k106 w A0 l0.length l0) (hc0 : l0.length ≤ c0) (h : doc_Doc_Right.f k l0 = some r) :
    Calls Try.prog 72 #[.slice A0 l0.length c0] w fun e w' => e = .returned (.bool r) ∧ Below w.heap.size w w' := by
  have hu106 := Try.underlying106
  have hu84 := Try.underlying84
  have HR0 := Aside0.mk hr0
  have HC0 := Aside0.mk hc0
  clear hr0 hc0
  have HB := Aside0.mk (Below.refl w.heap.size w)
  have H : (doc_Doc_Right.l0 k l0 false l0 (l0.length : Int) 0) = some r := h
  clear h
  have H' := Aside0.mk H
  clear H
  go_enter Try.func72, Try.ntmps72
  go_wp2
  go_loopg [3, 8] k (fun kq v3 v8 w' => ∃ (x3_1 : Bool) (x8_1 : Int), v3 = .bool x3_1 ∧ v8 = .int .i64 x8_1 ∧ Aside0 (doc_Doc_Right.l0 kq l0 x3_1 l0 (l0.length : Int) x8_1 = some r) ∧ Aside0 (kq ≤ k) ∧ Aside0 (Below w.heap.size w w'))
  case atStart => exact ⟨(false), (0), (by first | rfl | (simp; done) | (simp [*]; done)), (by first | rfl | (simp; done) | (simp [*]; done)), H', ⟨Nat.le_refl _⟩, ⟨by repeat (first | (with_reducible first | exact HB.out | apply below_alloc | apply pw_below_drewN | apply below_drew1) | exact HB.out)⟩⟩
  case round =>
    clear H'
    obtain ⟨x3_1, x8_1, rfl, rfl, HA, HK1, HB⟩ := hrel
    cases gk with
    | zero => exact absurd HA.out (by simp [doc_Doc_Right.l0])
    | succ k1 =>
      have H := HA.out
      clear HA
      simp only [doc_Doc_Right.l0] at H
      by_cases c2 : x8_1 < (l0.length : Int)
      · rw [if_pos c2] at H
        have c2b0 : decide (x8_1 < (l0.length : Int)) = true := decide_eq_true c2
        clear c2
        by_cases c3 : 0 ≤ x8_1
        · rw [if_pos c3] at H
          have c3b0 : decide (0 ≤ x8_1) = true := decide_eq_true c3
          clear c3
          by_cases c4 : x8_1 < (l0.length : Int)
          · rw [if_pos c4] at H
            have c4b0 : decide (x8_1 < (l0.length : Int)) = true := decide_eq_true c4
            clear c4
            have HC5 := Aside0.mk H
            clear H
            have p136 : 0 ≤ (x8_1 : Int) := of_decide_eq_true (by first | (with_reducible assumption) | assumption)
            have q136 : x8_1 < (l0.length : Int) := of_decide_eq_true (by first | (with_reducible assumption) | assumption)
            obtain ⟨ad136, e136, hx136_0, hx136_1, hx136_2, hx136_3, hx136_4, hx136_5, hx136_6, hx136_7, hx136_8⟩ := at_T106 HR0.out x8_1 p136 q136
            cases e136
            replace hx136_0 := (HB.out.cell (World.block_lt_of_cell? w _ hx136_0)).trans hx136_0
            replace hx136_1 := (HB.out.cell (World.block_lt_of_cell? w _ hx136_1)).trans hx136_1
            replace hx136_2 := (HB.out.cell (World.block_lt_of_cell? w _ hx136_2)).trans hx136_2
            replace hx136_3 := (HB.out.cell (World.block_lt_of_cell? w _ hx136_3)).trans hx136_3
            replace hx136_4 := (HB.out.cell (World.block_lt_of_cell? w _ hx136_4)).trans hx136_4
            replace hx136_5 := (HB.out.cell (World.block_lt_of_cell? w _ hx136_5)).trans hx136_5
            replace hx136_6 := (HB.out.cell (World.block_lt_of_cell? w _ hx136_6)).trans hx136_6
            replace hx136_7 := (HB.out.cell (World.block_lt_of_cell? w _ hx136_7)).trans hx136_7
            replace hx136_8 := (HB.out.cell (World.block_lt_of_cell? w _ hx136_8)).trans hx136_8
            replace p136 := eq_true p136
            replace q136 := eq_true q136
            go_upto_region 5 with (first | ((with_reducible refine gate_dst (N := 5) rfl ?_); (try (refine gate_guard (by rfl) ?_; dsimp only)); refine box_event ?hg (N := 5) ?hd (cs := #[.string (⟨#[]⟩ : ByteArray), .string (⟨#[]⟩ : ByteArray), .string (⟨#[]⟩ : ByteArray), .bool false, .string (⟨#[]⟩ : ByteArray), .string (⟨#[]⟩ : ByteArray), .string (⟨#[]⟩ : ByteArray), .string (⟨#[]⟩ : ByteArray), .bool false]) (t := 106) ?hr ?_; (case hd => rfl); (case hg => rfl); (case hr => first | (go_simp; done) | (go_simp; rfl)); intro gb137 hg w6 hbox hb; have n0_ := Aside0.mk (below_step (by repeat (first | (with_reducible first | exact HB.out | apply below_alloc | apply pw_below_drewN | apply below_drew1) | exact HB.out)) hb); have n1_ := Aside0.mk (hbox); have n2_ := Aside0.mk ((by rw [hg]; exact (below_size (by repeat (first | (with_reducible first | exact HB.out | apply below_alloc | apply pw_below_drewN | apply below_drew1) | exact HB.out))) : w.heap.size ≤ gb137)); have n3_ := Aside0.mk ((by rw [hg]; exact (below_size (by repeat (first | (with_reducible first | exact HB.out | apply below_alloc | apply pw_below_drewN | apply below_drew1) | exact HB.out))) : w.heap.size ≤ gb137)); clear HB; have HB := n0_; have BK137 := n1_; have GW137 := n2_; have GE137 := n3_; clear n0_ n1_ n2_ n3_; clear hb hbox hg; have hcz7_0 : w6.cell? ⟨gb137, 0, none⟩ = some (.string (⟨#[]⟩ : ByteArray)) := (blk_cell BK137.out 0).trans rfl; have hcz7_1 : w6.cell? ⟨gb137, 1, none⟩ = some (.string (⟨#[]⟩ : ByteArray)) := (blk_cell BK137.out 1).trans rfl; have hcz7_2 : w6.cell? ⟨gb137, 2, none⟩ = some (.string (⟨#[]⟩ : ByteArray)) := (blk_cell BK137.out 2).trans rfl; have hcz7_3 : w6.cell? ⟨gb137, 3, none⟩ = some (.bool false) := (blk_cell BK137.out 3).trans rfl; have hcz7_4 : w6.cell? ⟨gb137, 4, none⟩ = some (.string (⟨#[]⟩ : ByteArray)) := (blk_cell BK137.out 4).trans rfl; have hcz7_5 : w6.cell? ⟨gb137, 5, none⟩ = some (.string (⟨#[]⟩ : ByteArray)) := (blk_cell BK137.out 5).trans rfl; have hcz7_6 : w6.cell? ⟨gb137, 6, none⟩ = some (.string (⟨#[]⟩ : ByteArray)) := (blk_cell BK137.out 6).trans rfl; have hcz7_7 : w6.cell? ⟨gb137, 7, none⟩ = some (.string (⟨#[]⟩ : ByteArray)) := (blk_cell BK137.out 7).trans rfl; have hcz7_8 : w6.cell? ⟨gb137, 8, none⟩ = some (.bool false) := (blk_cell BK137.out 8).trans rfl; have hfz7_0 := blk_frozen BK137.out 0; have hfz7_1 := blk_frozen BK137.out 1; have hfz7_2 := blk_frozen BK137.out 2; have hfz7_3 := blk_frozen BK137.out 3; have hfz7_4 := blk_frozen BK137.out 4; have hfz7_5 := blk_frozen BK137.out 5; have hfz7_6 := blk_frozen BK137.out 6; have hfz7_7 := blk_frozen BK137.out 7; have hfz7_8 := blk_frozen BK137.out 8))
            (try simp only [Act.put, List.setIfInBounds_toArray, List.set_cons_zero, List.set_cons_succ])
            go_cut [13] (fun v13 wc => ∃ (kq : Nat) (x13_4 : Bool), v13 = .bool x13_4 ∧ Aside0 (doc_Doc_Right.j1 kq l0 x3_1 x8_1 l0 (l0.length : Int) x8_1 x13_4 ((rd_T106 l0 x8_1).f0.f0) ((rd_T106 l0 x8_1).f0.f1) ((rd_T106 l0 x8_1).f0.f2) ((rd_T106 l0 x8_1).f1) ((rd_T106 l0 x8_1).f2) ((rd_T106 l0 x8_1).f3) ((rd_T106 l0 x8_1).f4) ((rd_T106 l0 x8_1).f5) ((rd_T106 l0 x8_1).f6) = some r) ∧ Aside0 (kq ≤ k1) ∧ Aside0 (wc.heap[gb137]? = some (.cells #[.string ((rd_T106 l0 x8_1).f0.f0), .string ((rd_T106 l0 x8_1).f0.f1), .string ((rd_T106 l0 x8_1).f0.f2), .bool ((rd_T106 l0 x8_1).f1), .string ((rd_T106 l0 x8_1).f2), .string ((rd_T106 l0 x8_1).f3), .string ((rd_T106 l0 x8_1).f4), .string ((rd_T106 l0 x8_1).f5), .bool ((rd_T106 l0 x8_1).f6)] 106 (0, 0))) ∧ Aside0 (Below w.heap.size w wc))
            case first =>
              have H := HC5.out
              clear HC5
              replace H := Option.bind_eq_some_iff.mp H
              obtain ⟨t138, A80, H⟩ := H
              replace H : (if t138 = true then (doc_Doc_Right.j1 k1 l0 x3_1 x8_1 l0 (l0.length : Int) x8_1 false ((rd_T106 l0 x8_1).f0.f0) ((rd_T106 l0 x8_1).f0.f1) ((rd_T106 l0 x8_1).f0.f2) ((rd_T106 l0 x8_1).f1) ((rd_T106 l0 x8_1).f2) ((rd_T106 l0 x8_1).f3) ((rd_T106 l0 x8_1).f4) ((rd_T106 l0 x8_1).f5) ((rd_T106 l0 x8_1).f6)) else ((doc_Part_isConflict.f ((rd_T106 l0 x8_1).f0.f0) ((rd_T106 l0 x8_1).f0.f1) ((rd_T106 l0 x8_1).f0.f2) ((rd_T106 l0 x8_1).f1) ((rd_T106 l0 x8_1).f2) ((rd_T106 l0 x8_1).f3) ((rd_T106 l0 x8_1).f4) ((rd_T106 l0 x8_1).f5) ((rd_T106 l0 x8_1).f6)).bind fun t139 => (doc_Doc_Right.j1 k1 l0 x3_1 x8_1 l0 (l0.length : Int) x8_1 (!t139) ((rd_T106 l0 x8_1).f0.f0) ((rd_T106 l0 x8_1).f0.f1) ((rd_T106 l0 x8_1).f0.f2) ((rd_T106 l0 x8_1).f1) ((rd_T106 l0 x8_1).f2) ((rd_T106 l0 x8_1).f3) ((rd_T106 l0 x8_1).f4) ((rd_T106 l0 x8_1).f5) ((rd_T106 l0 x8_1).f6)))) = some r := H
              have A8 := Aside0.mk A80
              clear A80
              by_cases c9 : t138 = true
              · subst c9
                have H1 : (doc_Doc_Right.j1 k1 l0 x3_1 x8_1 l0 (l0.length : Int) x8_1 false ((rd_T106 l0 x8_1).f0.f0) ((rd_T106 l0 x8_1).f0.f1) ((rd_T106 l0 x8_1).f0.f2) ((rd_T106 l0 x8_1).f1) ((rd_T106 l0 x8_1).f2) ((rd_T106 l0 x8_1).f3) ((rd_T106 l0 x8_1).f4) ((rd_T106 l0 x8_1).f5) ((rd_T106 l0 x8_1).f6)) = some r := by rw [if_pos rfl] at H; exact H
                clear H
                have H := H1
                clear H1
                have H' := Aside0.mk H
                clear H
                have hcz10_0 : w6.cell? ⟨gb137, 0, none⟩ = some (.string (⟨#[]⟩ : ByteArray)) := (blk_cell BK137.out 0).trans rfl
                have hcz10_1 : w6.cell? ⟨gb137, 1, none⟩ = some (.string (⟨#[]⟩ : ByteArray)) := (blk_cell BK137.out 1).trans rfl
                have hcz10_2 : w6.cell? ⟨gb137, 2, none⟩ = some (.string (⟨#[]⟩ : ByteArray)) := (blk_cell BK137.out 2).trans rfl
                have hcz10_3 : w6.cell? ⟨gb137, 3, none⟩ = some (.bool false) := (blk_cell BK137.out 3).trans rfl
                have hcz10_4 : w6.cell? ⟨gb137, 4, none⟩ = some (.string (⟨#[]⟩ : ByteArray)) := (blk_cell BK137.out 4).trans rfl
                have hcz10_5 : w6.cell? ⟨gb137, 5, none⟩ = some (.string (⟨#[]⟩ : ByteArray)) := (blk_cell BK137.out 5).trans rfl
                have hcz10_6 : w6.cell? ⟨gb137, 6, none⟩ = some (.string (⟨#[]⟩ : ByteArray)) := (blk_cell BK137.out 6).trans rfl
                have hcz10_7 : w6.cell? ⟨gb137, 7, none⟩ = some (.string (⟨#[]⟩ : ByteArray)) := (blk_cell BK137.out 7).trans rfl
                have hcz10_8 : w6.cell? ⟨gb137, 8, none⟩ = some (.bool false) := (blk_cell BK137.out 8).trans rfl
                have hfz10_0 := blk_frozen BK137.out 0
                have hfz10_1 := blk_frozen BK137.out 1
                have hfz10_2 := blk_frozen BK137.out 2
                have hfz10_3 := blk_frozen BK137.out 3
                have hfz10_4 := blk_frozen BK137.out 4
                have hfz10_5 := blk_frozen BK137.out 5
                have hfz10_6 := blk_frozen BK137.out 6
                have hfz10_7 := blk_frozen BK137.out 7
                have hfz10_8 := blk_frozen BK137.out 8
                go_wp2_with (first | ((with_reducible refine gate_callee (f := 75) rfl ?_); refine goesL_ (some 15) rfl rfl Try.func75 (by kernel_rfl) rfl #[.agg #[.string ((rd_T106 l0 x8_1).f0.f0), .string ((rd_T106 l0 x8_1).f0.f1), .string ((rd_T106 l0 x8_1).f0.f2), .bool ((rd_T106 l0 x8_1).f1), .string ((rd_T106 l0 x8_1).f2), .string ((rd_T106 l0 x8_1).f3), .string ((rd_T106 l0 x8_1).f4), .string ((rd_T106 l0 x8_1).f5), .bool ((rd_T106 l0 x8_1).f6)]] rfl (by (try simp only [List.map_toArray, List.map_cons, List.map_nil]); first | done | rfl | (simp only [List.length_drop, List.length_take]; rfl)) ?_; (with_reducible refine (doc_Part_isText.calls ((rd_T106 l0 x8_1).f0.f0) ((rd_T106 l0 x8_1).f0.f1) ((rd_T106 l0 x8_1).f0.f2) ((rd_T106 l0 x8_1).f1) ((rd_T106 l0 x8_1).f2) ((rd_T106 l0 x8_1).f3) ((rd_T106 l0 x8_1).f4) ((rd_T106 l0 x8_1).f5) ((rd_T106 l0 x8_1).f6) true _ A8.out).mono ?_); rintro e w11 ⟨rfl, hb⟩; refine ⟨_, rfl, ?_⟩; have n0_ := Aside0.mk (blk_below (g := gb137) (o := .cells #[.string ((rd_T106 l0 x8_1).f0.f0), .string ((rd_T106 l0 x8_1).f0.f1), .string ((rd_T106 l0 x8_1).f0.f2), .bool ((rd_T106 l0 x8_1).f1), .string ((rd_T106 l0 x8_1).f2), .string ((rd_T106 l0 x8_1).f3), .string ((rd_T106 l0 x8_1).f4), .string ((rd_T106 l0 x8_1).f5), .bool ((rd_T106 l0 x8_1).f6)] 106 (0, 0)) (by (with_reducible repeat (first | refine blk_drewN ?_ _ | refine blk_drew ?_ | refine blk_alloc ?_ _)); refine blk_put (cs := #[.string ((rd_T106 l0 x8_1).f0.f0), .string ((rd_T106 l0 x8_1).f0.f1), .string ((rd_T106 l0 x8_1).f0.f2), .bool ((rd_T106 l0 x8_1).f1), .string ((rd_T106 l0 x8_1).f2), .string ((rd_T106 l0 x8_1).f3), .string ((rd_T106 l0 x8_1).f4), .string ((rd_T106 l0 x8_1).f5), .bool false]) ?_ 8 _ rfl; (with_reducible repeat (first | refine blk_drewN ?_ _ | refine blk_drew ?_ | refine blk_alloc ?_ _)); refine blk_put (cs := #[.string ((rd_T106 l0 x8_1).f0.f0), .string ((rd_T106 l0 x8_1).f0.f1), .string ((rd_T106 l0 x8_1).f0.f2), .bool ((rd_T106 l0 x8_1).f1), .string ((rd_T106 l0 x8_1).f2), .string ((rd_T106 l0 x8_1).f3), .string ((rd_T106 l0 x8_1).f4), .string (⟨#[]⟩ : ByteArray), .bool false]) ?_ 7 _ rfl; (with_reducible repeat (first | refine blk_drewN ?_ _ | refine blk_drew ?_ | refine blk_alloc ?_ _)); refine blk_put (cs := #[.string ((rd_T106 l0 x8_1).f0.f0), .string ((rd_T106 l0 x8_1).f0.f1), .string ((rd_T106 l0 x8_1).f0.f2), .bool ((rd_T106 l0 x8_1).f1), .string ((rd_T106 l0 x8_1).f2), .string ((rd_T106 l0 x8_1).f3), .string (⟨#[]⟩ : ByteArray), .string (⟨#[]⟩ : ByteArray), .bool false]) ?_ 6 _ rfl; (with_reducible repeat (first | refine blk_drewN ?_ _ | refine blk_drew ?_ | refine blk_alloc ?_ _)); refine blk_put (cs := #[.string ((rd_T106 l0 x8_1).f0.f0), .string ((rd_T106 l0 x8_1).f0.f1), .string ((rd_T106 l0 x8_1).f0.f2), .bool ((rd_T106 l0 x8_1).f1), .string ((rd_T106 l0 x8_1).f2), .string (⟨#[]⟩ : ByteArray), .string (⟨#[]⟩ : ByteArray), .string (⟨#[]⟩ : ByteArray), .bool false]) ?_ 5 _ rfl; (with_reducible repeat (first | refine blk_drewN ?_ _ | refine blk_drew ?_ | refine blk_alloc ?_ _)); refine blk_put (cs := #[.string ((rd_T106 l0 x8_1).f0.f0), .string ((rd_T106 l0 x8_1).f0.f1), .string ((rd_T106 l0 x8_1).f0.f2), .bool ((rd_T106 l0 x8_1).f1), .string (⟨#[]⟩ : ByteArray), .string (⟨#[]⟩ : ByteArray), .string (⟨#[]⟩ : ByteArray), .string (⟨#[]⟩ : ByteArray), .bool false]) ?_ 4 _ rfl; (with_reducible repeat (first | refine blk_drewN ?_ _ | refine blk_drew ?_ | refine blk_alloc ?_ _)); refine blk_put (cs := #[.string ((rd_T106 l0 x8_1).f0.f0), .string ((rd_T106 l0 x8_1).f0.f1), .string ((rd_T106 l0 x8_1).f0.f2), .bool false, .string (⟨#[]⟩ : ByteArray), .string (⟨#[]⟩ : ByteArray), .string (⟨#[]⟩ : ByteArray), .string (⟨#[]⟩ : ByteArray), .bool false]) ?_ 3 _ rfl; (with_reducible repeat (first | refine blk_drewN ?_ _ | refine blk_drew ?_ | refine blk_alloc ?_ _)); refine blk_put (cs := #[.string ((rd_T106 l0 x8_1).f0.f0), .string ((rd_T106 l0 x8_1).f0.f1), .string (⟨#[]⟩ : ByteArray), .bool false, .string (⟨#[]⟩ : ByteArray), .string (⟨#[]⟩ : ByteArray), .string (⟨#[]⟩ : ByteArray), .string (⟨#[]⟩ : ByteArray), .bool false]) ?_ 2 _ rfl; (with_reducible repeat (first | refine blk_drewN ?_ _ | refine blk_drew ?_ | refine blk_alloc ?_ _)); refine blk_put (cs := #[.string ((rd_T106 l0 x8_1).f0.f0), .string (⟨#[]⟩ : ByteArray), .string (⟨#[]⟩ : ByteArray), .bool false, .string (⟨#[]⟩ : ByteArray), .string (⟨#[]⟩ : ByteArray), .string (⟨#[]⟩ : ByteArray), .string (⟨#[]⟩ : ByteArray), .bool false]) ?_ 1 _ rfl; (with_reducible repeat (first | refine blk_drewN ?_ _ | refine blk_drew ?_ | refine blk_alloc ?_ _)); refine blk_put (cs := #[.string (⟨#[]⟩ : ByteArray), .string (⟨#[]⟩ : ByteArray), .string (⟨#[]⟩ : ByteArray), .bool false, .string (⟨#[]⟩ : ByteArray), .string (⟨#[]⟩ : ByteArray), .string (⟨#[]⟩ : ByteArray), .string (⟨#[]⟩ : ByteArray), .bool false]) ?_ 0 _ rfl; (with_reducible repeat (first | refine blk_drewN ?_ _ | refine blk_drew ?_ | refine blk_alloc ?_ _)); exact BK137.out) hb); have n1_ := Aside0.mk (below_step (by repeat (first | (with_reducible first | exact HB.out | apply below_alloc | apply pw_below_drewN | apply below_drew1 | refine below_set ?_ GE137.out) | exact HB.out)) hb); clear BK137; clear HB; have BK137 := n0_; have HB := n1_; clear n0_ n1_; (try clear hb); (try clear hb2); (try clear hk); (try clear hi)))
                go_meet
                case rel => exact ⟨_, (false), (by first | rfl | (simp; done) | (simp [*]; done)), H', ⟨by have := HK1.out; first | omega | exact Nat.le_refl _⟩, ⟨by (with_reducible repeat (first | refine blk_drewN ?_ _ | refine blk_drew ?_ | refine blk_alloc ?_ _)); exact BK137.out⟩, ⟨by repeat (first | (with_reducible first | exact HB.out | apply below_alloc | apply pw_below_drewN | apply below_drew1 | refine below_set ?_ GE137.out) | exact HB.out)⟩⟩
              · replace c9 := Bool.eq_false_iff.mpr c9
                subst c9
                have H1 : ((doc_Part_isConflict.f ((rd_T106 l0 x8_1).f0.f0) ((rd_T106 l0 x8_1).f0.f1) ((rd_T106 l0 x8_1).f0.f2) ((rd_T106 l0 x8_1).f1) ((rd_T106 l0 x8_1).f2) ((rd_T106 l0 x8_1).f3) ((rd_T106 l0 x8_1).f4) ((rd_T106 l0 x8_1).f5) ((rd_T106 l0 x8_1).f6)).bind fun t139 => (doc_Doc_Right.j1 k1 l0 x3_1 x8_1 l0 (l0.length : Int) x8_1 (!t139) ((rd_T106 l0 x8_1).f0.f0) ((rd_T106 l0 x8_1).f0.f1) ((rd_T106 l0 x8_1).f0.f2) ((rd_T106 l0 x8_1).f1) ((rd_T106 l0 x8_1).f2) ((rd_T106 l0 x8_1).f3) ((rd_T106 l0 x8_1).f4) ((rd_T106 l0 x8_1).f5) ((rd_T106 l0 x8_1).f6))) = some r := by rw [if_neg (show ¬ (false = true) by decide)] at H; exact H
                clear H
                have H := H1
                clear H1
                replace H := Option.bind_eq_some_iff.mp H
                obtain ⟨t139, A120, H⟩ := H
                replace H : (doc_Doc_Right.j1 k1 l0 x3_1 x8_1 l0 (l0.length : Int) x8_1 (!t139) ((rd_T106 l0 x8_1).f0.f0) ((rd_T106 l0 x8_1).f0.f1) ((rd_T106 l0 x8_1).f0.f2) ((rd_T106 l0 x8_1).f1) ((rd_T106 l0 x8_1).f2) ((rd_T106 l0 x8_1).f3) ((rd_T106 l0 x8_1).f4) ((rd_T106 l0 x8_1).f5) ((rd_T106 l0 x8_1).f6)) = some r := H
                have A12 := Aside0.mk A120
                clear A120
                have H' := Aside0.mk H
                clear H
                have hcz13_0 : w6.cell? ⟨gb137, 0, none⟩ = some (.string (⟨#[]⟩ : ByteArray)) := (blk_cell BK137.out 0).trans rfl
                have hcz13_1 : w6.cell? ⟨gb137, 1, none⟩ = some (.string (⟨#[]⟩ : ByteArray)) := (blk_cell BK137.out 1).trans rfl
                have hcz13_2 : w6.cell? ⟨gb137, 2, none⟩ = some (.string (⟨#[]⟩ : ByteArray)) := (blk_cell BK137.out 2).trans rfl
                have hcz13_3 : w6.cell? ⟨gb137, 3, none⟩ = some (.bool false) := (blk_cell BK137.out 3).trans rfl
                have hcz13_4 : w6.cell? ⟨gb137, 4, none⟩ = some (.string (⟨#[]⟩ : ByteArray)) := (blk_cell BK137.out 4).trans rfl
                have hcz13_5 : w6.cell? ⟨gb137, 5, none⟩ = some (.string (⟨#[]⟩ : ByteArray)) := (blk_cell BK137.out 5).trans rfl
                have hcz13_6 : w6.cell? ⟨gb137, 6, none⟩ = some (.string (⟨#[]⟩ : ByteArray)) := (blk_cell BK137.out 6).trans rfl
                have hcz13_7 : w6.cell? ⟨gb137, 7, none⟩ = some (.string (⟨#[]⟩ : ByteArray)) := (blk_cell BK137.out 7).trans rfl
                have hcz13_8 : w6.cell? ⟨gb137, 8, none⟩ = some (.bool false) := (blk_cell BK137.out 8).trans rfl
                have hfz13_0 := blk_frozen BK137.out 0
                have hfz13_1 := blk_frozen BK137.out 1
                have hfz13_2 := blk_frozen BK137.out 2
                have hfz13_3 := blk_frozen BK137.out 3
                have hfz13_4 := blk_frozen BK137.out 4
                have hfz13_5 := blk_frozen BK137.out 5
                have hfz13_6 := blk_frozen BK137.out 6
                have hfz13_7 := blk_frozen BK137.out 7
                have hfz13_8 := blk_frozen BK137.out 8
                go_wp2_with (first | ((with_reducible refine gate_callee (f := 75) rfl ?_); refine goesL_ (some 15) rfl rfl Try.func75 (by kernel_rfl) rfl #[.agg #[.string ((rd_T106 l0 x8_1).f0.f0), .string ((rd_T106 l0 x8_1).f0.f1), .string ((rd_T106 l0 x8_1).f0.f2), .bool ((rd_T106 l0 x8_1).f1), .string ((rd_T106 l0 x8_1).f2), .string ((rd_T106 l0 x8_1).f3), .string ((rd_T106 l0 x8_1).f4), .string ((rd_T106 l0 x8_1).f5), .bool ((rd_T106 l0 x8_1).f6)]] rfl (by (try simp only [List.map_toArray, List.map_cons, List.map_nil]); first | done | rfl | (simp only [List.length_drop, List.length_take]; rfl)) ?_; (with_reducible refine (doc_Part_isText.calls ((rd_T106 l0 x8_1).f0.f0) ((rd_T106 l0 x8_1).f0.f1) ((rd_T106 l0 x8_1).f0.f2) ((rd_T106 l0 x8_1).f1) ((rd_T106 l0 x8_1).f2) ((rd_T106 l0 x8_1).f3) ((rd_T106 l0 x8_1).f4) ((rd_T106 l0 x8_1).f5) ((rd_T106 l0 x8_1).f6) false _ A8.out).mono ?_); rintro e w14 ⟨rfl, hb⟩; refine ⟨_, rfl, ?_⟩; have n0_ := Aside0.mk (blk_below (g := gb137) (o := .cells #[.string ((rd_T106 l0 x8_1).f0.f0), .string ((rd_T106 l0 x8_1).f0.f1), .string ((rd_T106 l0 x8_1).f0.f2), .bool ((rd_T106 l0 x8_1).f1), .string ((rd_T106 l0 x8_1).f2), .string ((rd_T106 l0 x8_1).f3), .string ((rd_T106 l0 x8_1).f4), .string ((rd_T106 l0 x8_1).f5), .bool ((rd_T106 l0 x8_1).f6)] 106 (0, 0)) (by (with_reducible repeat (first | refine blk_drewN ?_ _ | refine blk_drew ?_ | refine blk_alloc ?_ _)); refine blk_put (cs := #[.string ((rd_T106 l0 x8_1).f0.f0), .string ((rd_T106 l0 x8_1).f0.f1), .string ((rd_T106 l0 x8_1).f0.f2), .bool ((rd_T106 l0 x8_1).f1), .string ((rd_T106 l0 x8_1).f2), .string ((rd_T106 l0 x8_1).f3), .string ((rd_T106 l0 x8_1).f4), .string ((rd_T106 l0 x8_1).f5), .bool false]) ?_ 8 _ rfl; (with_reducible repeat (first | refine blk_drewN ?_ _ | refine blk_drew ?_ | refine blk_alloc ?_ _)); refine blk_put (cs := #[.string ((rd_T106 l0 x8_1).f0.f0), .string ((rd_T106 l0 x8_1).f0.f1), .string ((rd_T106 l0 x8_1).f0.f2), .bool ((rd_T106 l0 x8_1).f1), .string ((rd_T106 l0 x8_1).f2), .string ((rd_T106 l0 x8_1).f3), .string ((rd_T106 l0 x8_1).f4), .string (⟨#[]⟩ : ByteArray), .bool false]) ?_ 7 _ rfl; (with_reducible repeat (first | refine blk_drewN ?_ _ | refine blk_drew ?_ | refine blk_alloc ?_ _)); refine blk_put (cs := #[.string ((rd_T106 l0 x8_1).f0.f0), .string ((rd_T106 l0 x8_1).f0.f1), .string ((rd_T106 l0 x8_1).f0.f2), .bool ((rd_T106 l0 x8_1).f1), .string ((rd_T106 l0 x8_1).f2), .string ((rd_T106 l0 x8_1).f3), .string (⟨#[]⟩ : ByteArray), .string (⟨#[]⟩ : ByteArray), .bool false]) ?_ 6 _ rfl; (with_reducible repeat (first | refine blk_drewN ?_ _ | refine blk_drew ?_ | refine blk_alloc ?_ _)); refine blk_put (cs := #[.string ((rd_T106 l0 x8_1).f0.f0), .string ((rd_T106 l0 x8_1).f0.f1), .string ((rd_T106 l0 x8_1).f0.f2), .bool ((rd_T106 l0 x8_1).f1), .string ((rd_T106 l0 x8_1).f2), .string (⟨#[]⟩ : ByteArray), .string (⟨#[]⟩ : ByteArray), .string (⟨#[]⟩ : ByteArray), .bool false]) ?_ 5 _ rfl; (with_reducible repeat (first | refine blk_drewN ?_ _ | refine blk_drew ?_ | refine blk_alloc ?_ _)); refine blk_put (cs := #[.string ((rd_T106 l0 x8_1).f0.f0), .string ((rd_T106 l0 x8_1).f0.f1), .string ((rd_T106 l0 x8_1).f0.f2), .bool ((rd_T106 l0 x8_1).f1), .string (⟨#[]⟩ : ByteArray), .string (⟨#[]⟩ : ByteArray), .string (⟨#[]⟩ : ByteArray), .string (⟨#[]⟩ : ByteArray), .bool false]) ?_ 4 _ rfl; (with_reducible repeat (first | refine blk_drewN ?_ _ | refine blk_drew ?_ | refine blk_alloc ?_ _)); refine blk_put (cs := #[.string ((rd_T106 l0 x8_1).f0.f0), .string ((rd_T106 l0 x8_1).f0.f1), .string ((rd_T106 l0 x8_1).f0.f2), .bool false, .string (⟨#[]⟩ : ByteArray), .string (⟨#[]⟩ : ByteArray), .string (⟨#[]⟩ : ByteArray), .string (⟨#[]⟩ : ByteArray), .bool false]) ?_ 3 _ rfl; (with_reducible repeat (first | refine blk_drewN ?_ _ | refine blk_drew ?_ | refine blk_alloc ?_ _)); refine blk_put (cs := #[.string ((rd_T106 l0 x8_1).f0.f0), .string ((rd_T106 l0 x8_1).f0.f1), .string (⟨#[]⟩ : ByteArray), .bool false, .string (⟨#[]⟩ : ByteArray), .string (⟨#[]⟩ : ByteArray), .string (⟨#[]⟩ : ByteArray), .string (⟨#[]⟩ : ByteArray), .bool false]) ?_ 2 _ rfl; (with_reducible repeat (first | refine blk_drewN ?_ _ | refine blk_drew ?_ | refine blk_alloc ?_ _)); refine blk_put (cs := #[.string ((rd_T106 l0 x8_1).f0.f0), .string (⟨#[]⟩ : ByteArray), .string (⟨#[]⟩ : ByteArray), .bool false, .string (⟨#[]⟩ : ByteArray), .string (⟨#[]⟩ : ByteArray), .string (⟨#[]⟩ : ByteArray), .string (⟨#[]⟩ : ByteArray), .bool false]) ?_ 1 _ rfl; (with_reducible repeat (first | refine blk_drewN ?_ _ | refine blk_drew ?_ | refine blk_alloc ?_ _)); refine blk_put (cs := #[.string (⟨#[]⟩ : ByteArray), .string (⟨#[]⟩ : ByteArray), .string (⟨#[]⟩ : ByteArray), .bool false, .string (⟨#[]⟩ : ByteArray), .string (⟨#[]⟩ : ByteArray), .string (⟨#[]⟩ : ByteArray), .string (⟨#[]⟩ : ByteArray), .bool false]) ?_ 0 _ rfl; (with_reducible repeat (first | refine blk_drewN ?_ _ | refine blk_drew ?_ | refine blk_alloc ?_ _)); exact BK137.out) hb); have n1_ := Aside0.mk (below_step (by repeat (first | (with_reducible first | exact HB.out | apply below_alloc | apply pw_below_drewN | apply below_drew1 | refine below_set ?_ GE137.out) | exact HB.out)) hb); clear BK137; clear HB; have BK137 := n0_; have HB := n1_; clear n0_ n1_; (try clear hb); (try clear hb2); (try clear hk); (try clear hi); have hcz15_0 : w14.cell? ⟨gb137, 0, none⟩ = some (.string ((rd_T106 l0 x8_1).f0.f0)) := (blk_cell BK137.out 0).trans rfl; have hcz15_1 : w14.cell? ⟨gb137, 1, none⟩ = some (.string ((rd_T106 l0 x8_1).f0.f1)) := (blk_cell BK137.out 1).trans rfl; have hcz15_2 : w14.cell? ⟨gb137, 2, none⟩ = some (.string ((rd_T106 l0 x8_1).f0.f2)) := (blk_cell BK137.out 2).trans rfl; have hcz15_3 : w14.cell? ⟨gb137, 3, none⟩ = some (.bool ((rd_T106 l0 x8_1).f1)) := (blk_cell BK137.out 3).trans rfl; have hcz15_4 : w14.cell? ⟨gb137, 4, none⟩ = some (.string ((rd_T106 l0 x8_1).f2)) := (blk_cell BK137.out 4).trans rfl; have hcz15_5 : w14.cell? ⟨gb137, 5, none⟩ = some (.string ((rd_T106 l0 x8_1).f3)) := (blk_cell BK137.out 5).trans rfl; have hcz15_6 : w14.cell? ⟨gb137, 6, none⟩ = some (.string ((rd_T106 l0 x8_1).f4)) := (blk_cell BK137.out 6).trans rfl; have hcz15_7 : w14.cell? ⟨gb137, 7, none⟩ = some (.string ((rd_T106 l0 x8_1).f5)) := (blk_cell BK137.out 7).trans rfl; have hcz15_8 : w14.cell? ⟨gb137, 8, none⟩ = some (.bool ((rd_T106 l0 x8_1).f6)) := (blk_cell BK137.out 8).trans rfl; have hfz15_0 := blk_frozen BK137.out 0; have hfz15_1 := blk_frozen BK137.out 1; have hfz15_2 := blk_frozen BK137.out 2; have hfz15_3 := blk_frozen BK137.out 3; have hfz15_4 := blk_frozen BK137.out 4; have hfz15_5 := blk_frozen BK137.out 5; have hfz15_6 := blk_frozen BK137.out 6; have hfz15_7 := blk_frozen BK137.out 7; have hfz15_8 := blk_frozen BK137.out 8) | (go_at_call 113; (with_reducible refine (doc_Part_isConflict.calls ((rd_T106 l0 x8_1).f0.f0) ((rd_T106 l0 x8_1).f0.f1) ((rd_T106 l0 x8_1).f0.f2) ((rd_T106 l0 x8_1).f1) ((rd_T106 l0 x8_1).f2) ((rd_T106 l0 x8_1).f3) ((rd_T106 l0 x8_1).f4) ((rd_T106 l0 x8_1).f5) ((rd_T106 l0 x8_1).f6) t139 _ A12.out).mono ?_); rintro e w16 ⟨rfl, hb⟩; have n0_ := Aside0.mk (blk_below (g := gb137) (o := .cells #[.string ((rd_T106 l0 x8_1).f0.f0), .string ((rd_T106 l0 x8_1).f0.f1), .string ((rd_T106 l0 x8_1).f0.f2), .bool ((rd_T106 l0 x8_1).f1), .string ((rd_T106 l0 x8_1).f2), .string ((rd_T106 l0 x8_1).f3), .string ((rd_T106 l0 x8_1).f4), .string ((rd_T106 l0 x8_1).f5), .bool ((rd_T106 l0 x8_1).f6)] 106 (0, 0)) (by (with_reducible repeat (first | refine blk_drewN ?_ _ | refine blk_drew ?_ | refine blk_alloc ?_ _)); exact BK137.out) hb); have n1_ := Aside0.mk (below_step (by repeat (first | (with_reducible first | exact HB.out | apply below_alloc | apply pw_below_drewN | apply below_drew1 | refine below_set ?_ GE137.out) | exact HB.out)) hb); clear BK137; clear HB; have BK137 := n0_; have HB := n1_; clear n0_ n1_; (try clear hb); (try clear hb2); (try clear hk); (try clear hi)))
                go_meet
                case rel => exact ⟨_, (!t139), (by first | rfl | (simp; done) | (simp [*]; done)), H', ⟨by have := HK1.out; first | omega | exact Nat.le_refl _⟩, ⟨by (with_reducible repeat (first | refine blk_drewN ?_ _ | refine blk_drew ?_ | refine blk_alloc ?_ _)); exact BK137.out⟩, ⟨by repeat (first | (with_reducible first | exact HB.out | apply below_alloc | apply pw_below_drewN | apply below_drew1 | refine below_set ?_ GE137.out) | exact HB.out)⟩⟩
            case rest =>
              clear HC5
              try clear p1
              try clear q1
              try clear hx1
              try clear c2
              try clear c2b0
              try clear p2
              try clear c3
              try clear c3b0
              try clear c4
              try clear c4b0
              try clear c7
              try clear c9
              try clear p13
              try clear q13
              try clear hx13
              try clear hcz10_0
              try clear hcz10_1
              try clear hcz10_2
              try clear hcz10_3
              try clear hcz10_4
              try clear hcz10_5
              try clear hcz10_6
              try clear hcz10_7
              try clear hcz10_8
              try clear hcz13_0
              try clear hcz13_1
              try clear hcz13_2
              try clear hcz13_3
              try clear hcz13_4
              try clear hcz13_5
              try clear hcz13_6
              try clear hcz13_7
              try clear hcz13_8
              try clear hcz15_0
              try clear hcz15_1
              try clear hcz15_2
              try clear hcz15_3
              try clear hcz15_4
              try clear hcz15_5
              try clear hcz15_6
              try clear hcz15_7
              try clear hcz15_8
              try clear hcz7_0
              try clear hcz7_1
              try clear hcz7_2
              try clear hcz7_3
              try clear hcz7_4
              try clear hcz7_5
              try clear hcz7_6
              try clear hcz7_7
              try clear hcz7_8
              try clear hfz10_0
              try clear hfz10_1
              try clear hfz10_2
              try clear hfz10_3
              try clear hfz10_4
              try clear hfz10_5
              try clear hfz10_6
              try clear hfz10_7
              try clear hfz10_8
              try clear hfz13_0
              try clear hfz13_1
              try clear hfz13_2
              try clear hfz13_3
              try clear hfz13_4
              try clear hfz13_5
              try clear hfz13_6
              try clear hfz13_7
              try clear hfz13_8
              try clear hfz15_0
              try clear hfz15_1
              try clear hfz15_2
              try clear hfz15_3
              try clear hfz15_4
              try clear hfz15_5
              try clear hfz15_6
              try clear hfz15_7
              try clear hfz15_8
              try clear hfz7_0
              try clear hfz7_1
              try clear hfz7_2
              try clear hfz7_3
              try clear hfz7_4
              try clear hfz7_5
              try clear hfz7_6
              try clear hfz7_7
              try clear hfz7_8
              try clear hx136_0
              try clear hx136_1
              try clear hx136_2
              try clear hx136_3
              try clear hx136_4
              try clear hx136_5
              try clear hx136_6
              try clear hx136_7
              try clear hx136_8
              try clear p136
              try clear q136
              obtain ⟨kq, x13_4, rfl, HA, HJ4, BK137, HB⟩ := hcut
              cases kq with
              | zero => exact absurd HA.out (by simp [doc_Doc_Right.j1])
              | succ kj4 =>
                have H := HA.out
                clear HA
                simp only [doc_Doc_Right.j1] at H
                have HC17 := Aside0.mk H
                clear H
                go_upto_if 13 with (fail)
                go_cut [13] (fun v13 wc => ∃ (kq : Nat) (x13_16 : Bool), v13 = .bool x13_16 ∧ Aside0 (doc_Doc_Right.j2 kq l0 x3_1 x8_1 l0 (l0.length : Int) x8_1 x13_16 ((rd_T106 l0 x8_1).f0.f0) ((rd_T106 l0 x8_1).f0.f1) ((rd_T106 l0 x8_1).f0.f2) ((rd_T106 l0 x8_1).f1) ((rd_T106 l0 x8_1).f2) ((rd_T106 l0 x8_1).f3) ((rd_T106 l0 x8_1).f4) ((rd_T106 l0 x8_1).f5) ((rd_T106 l0 x8_1).f6) = some r) ∧ Aside0 (kq ≤ kj4) ∧ Aside0 (wc.heap[gb137]? = some (.cells #[.string ((rd_T106 l0 x8_1).f0.f0), .string ((rd_T106 l0 x8_1).f0.f1), .string ((rd_T106 l0 x8_1).f0.f2), .bool ((rd_T106 l0 x8_1).f1), .string ((rd_T106 l0 x8_1).f2), .string ((rd_T106 l0 x8_1).f3), .string ((rd_T106 l0 x8_1).f4), .string ((rd_T106 l0 x8_1).f5), .bool ((rd_T106 l0 x8_1).f6)] 106 (0, 0))) ∧ Aside0 (Below w.heap.size w wc))
                case first =>
                  have H := HC17.out
                  clear HC17
                  by_cases c18 : x13_4 = true
                  · subst c18
                    have H1 : (doc_Doc_Right.j2 kj4 l0 x3_1 x8_1 l0 (l0.length : Int) x8_1 true ((rd_T106 l0 x8_1).f0.f0) ((rd_T106 l0 x8_1).f0.f1) ((rd_T106 l0 x8_1).f0.f2) ((rd_T106 l0 x8_1).f1) ((rd_T106 l0 x8_1).f2) ((rd_T106 l0 x8_1).f3) ((rd_T106 l0 x8_1).f4) ((rd_T106 l0 x8_1).f5) ((rd_T106 l0 x8_1).f6)) = some r := by rw [if_pos rfl] at H; exact H
                    clear H
                    have H := H1
                    clear H1
                    have H' := Aside0.mk H
                    clear H
                    go_wp2
                    go_meet
                    case rel => exact ⟨_, (true), (by first | rfl | (simp; done) | (simp [*]; done)), H', ⟨by have := HK1.out; have := HJ4.out; first | omega | exact Nat.le_refl _⟩, ⟨by (with_reducible repeat (first | refine blk_drewN ?_ _ | refine blk_drew ?_ | refine blk_alloc ?_ _)); exact BK137.out⟩, ⟨by repeat (first | (with_reducible first | exact HB.out | apply below_alloc | apply pw_below_drewN | apply below_drew1 | refine below_set ?_ GE137.out) | exact HB.out)⟩⟩
                  · replace c18 := Bool.eq_false_iff.mpr c18
                    subst c18
                    have H1 : ((doc_Labels_Plain.f ((rd_T106 l0 x8_1).f0.f0) ((rd_T106 l0 x8_1).f0.f1) ((rd_T106 l0 x8_1).f0.f2)).bind fun t140 => (doc_Doc_Right.j2 kj4 l0 x3_1 x8_1 l0 (l0.length : Int) x8_1 (!t140) ((rd_T106 l0 x8_1).f0.f0) ((rd_T106 l0 x8_1).f0.f1) ((rd_T106 l0 x8_1).f0.f2) ((rd_T106 l0 x8_1).f1) ((rd_T106 l0 x8_1).f2) ((rd_T106 l0 x8_1).f3) ((rd_T106 l0 x8_1).f4) ((rd_T106 l0 x8_1).f5) ((rd_T106 l0 x8_1).f6))) = some r := by rw [if_neg (show ¬ (false = true) by decide)] at H; exact H
                    clear H
                    have H := H1
                    clear H1
                    replace H := Option.bind_eq_some_iff.mp H
                    obtain ⟨t140, A190, H⟩ := H
                    replace H : (doc_Doc_Right.j2 kj4 l0 x3_1 x8_1 l0 (l0.length : Int) x8_1 (!t140) ((rd_T106 l0 x8_1).f0.f0) ((rd_T106 l0 x8_1).f0.f1) ((rd_T106 l0 x8_1).f0.f2) ((rd_T106 l0 x8_1).f1) ((rd_T106 l0 x8_1).f2) ((rd_T106 l0 x8_1).f3) ((rd_T106 l0 x8_1).f4) ((rd_T106 l0 x8_1).f5) ((rd_T106 l0 x8_1).f6)) = some r := H
                    have A19 := Aside0.mk A190
                    clear A190
                    have H' := Aside0.mk H
                    clear H
                    have hcz20_0 : wc.cell? ⟨gb137, 0, none⟩ = some (.string ((rd_T106 l0 x8_1).f0.f0)) := (blk_cell BK137.out 0).trans rfl
                    have hcz20_1 : wc.cell? ⟨gb137, 1, none⟩ = some (.string ((rd_T106 l0 x8_1).f0.f1)) := (blk_cell BK137.out 1).trans rfl
                    have hcz20_2 : wc.cell? ⟨gb137, 2, none⟩ = some (.string ((rd_T106 l0 x8_1).f0.f2)) := (blk_cell BK137.out 2).trans rfl
                    have hcz20_3 : wc.cell? ⟨gb137, 3, none⟩ = some (.bool ((rd_T106 l0 x8_1).f1)) := (blk_cell BK137.out 3).trans rfl
                    have hcz20_4 : wc.cell? ⟨gb137, 4, none⟩ = some (.string ((rd_T106 l0 x8_1).f2)) := (blk_cell BK137.out 4).trans rfl
                    have hcz20_5 : wc.cell? ⟨gb137, 5, none⟩ = some (.string ((rd_T106 l0 x8_1).f3)) := (blk_cell BK137.out 5).trans rfl
                    have hcz20_6 : wc.cell? ⟨gb137, 6, none⟩ = some (.string ((rd_T106 l0 x8_1).f4)) := (blk_cell BK137.out 6).trans rfl
                    have hcz20_7 : wc.cell? ⟨gb137, 7, none⟩ = some (.string ((rd_T106 l0 x8_1).f5)) := (blk_cell BK137.out 7).trans rfl
                    have hcz20_8 : wc.cell? ⟨gb137, 8, none⟩ = some (.bool ((rd_T106 l0 x8_1).f6)) := (blk_cell BK137.out 8).trans rfl
                    have hfz20_0 := blk_frozen BK137.out 0
                    have hfz20_1 := blk_frozen BK137.out 1
                    have hfz20_2 := blk_frozen BK137.out 2
                    have hfz20_3 := blk_frozen BK137.out 3
                    have hfz20_4 := blk_frozen BK137.out 4
                    have hfz20_5 := blk_frozen BK137.out 5
                    have hfz20_6 := blk_frozen BK137.out 6
                    have hfz20_7 := blk_frozen BK137.out 7
                    have hfz20_8 := blk_frozen BK137.out 8
                    go_wp2_with (first | ((with_reducible refine gate_callee (f := 114) rfl ?_); refine goesL_ (some 24) rfl rfl Try.func114 (by kernel_rfl) rfl #[.agg #[.string ((rd_T106 l0 x8_1).f0.f0), .string ((rd_T106 l0 x8_1).f0.f1), .string ((rd_T106 l0 x8_1).f0.f2)]] rfl (by (try simp only [List.map_toArray, List.map_cons, List.map_nil]); first | done | rfl | (simp only [List.length_drop, List.length_take]; rfl)) ?_; (with_reducible refine (doc_Labels_Plain.calls ((rd_T106 l0 x8_1).f0.f0) ((rd_T106 l0 x8_1).f0.f1) ((rd_T106 l0 x8_1).f0.f2) t140 _ A19.out).mono ?_); rintro e w21 ⟨rfl, hb⟩; refine ⟨_, rfl, ?_⟩; have n0_ := Aside0.mk (blk_below (g := gb137) (o := .cells #[.string ((rd_T106 l0 x8_1).f0.f0), .string ((rd_T106 l0 x8_1).f0.f1), .string ((rd_T106 l0 x8_1).f0.f2), .bool ((rd_T106 l0 x8_1).f1), .string ((rd_T106 l0 x8_1).f2), .string ((rd_T106 l0 x8_1).f3), .string ((rd_T106 l0 x8_1).f4), .string ((rd_T106 l0 x8_1).f5), .bool ((rd_T106 l0 x8_1).f6)] 106 (0, 0)) (by (with_reducible repeat (first | refine blk_drewN ?_ _ | refine blk_drew ?_ | refine blk_alloc ?_ _)); exact BK137.out) hb); have n1_ := Aside0.mk (below_step (by repeat (first | (with_reducible first | exact HB.out | apply below_alloc | apply pw_below_drewN | apply below_drew1 | refine below_set ?_ GE137.out) | exact HB.out)) hb); clear BK137; clear HB; have BK137 := n0_; have HB := n1_; clear n0_ n1_; (try clear hb); (try clear hb2); (try clear hk); (try clear hi)))
                    go_meet
                    case rel => exact ⟨_, (!t140), (by first | rfl | (simp; done) | (simp [*]; done)), H', ⟨by have := HK1.out; have := HJ4.out; first | omega | exact Nat.le_refl _⟩, ⟨by (with_reducible repeat (first | refine blk_drewN ?_ _ | refine blk_drew ?_ | refine blk_alloc ?_ _)); exact BK137.out⟩, ⟨by repeat (first | (with_reducible first | exact HB.out | apply below_alloc | apply pw_below_drewN | apply below_drew1 | refine below_set ?_ GE137.out) | exact HB.out)⟩⟩
                case rest =>
                  clear HC17
                  try clear c1
                  try clear p1
                  try clear q1
                  try clear hx1
                  try clear c2
                  try clear c2b0
                  try clear p2
                  try clear c3
                  try clear c3b0
                  try clear c4
                  try clear c4b0
                  try clear c7
                  try clear c9
                  try clear c11
                  try clear p13
                  try clear q13
                  try clear hx13
                  try clear c18
                  try clear hcz10_0
                  try clear hcz10_1
                  try clear hcz10_2
                  try clear hcz10_3
                  try clear hcz10_4
                  try clear hcz10_5
                  try clear hcz10_6
                  try clear hcz10_7
                  try clear hcz10_8
                  try clear hcz13_0
                  try clear hcz13_1
                  try clear hcz13_2
                  try clear hcz13_3
                  try clear hcz13_4
                  try clear hcz13_5
                  try clear hcz13_6
                  try clear hcz13_7
                  try clear hcz13_8
                  try clear hcz15_0
                  try clear hcz15_1
                  try clear hcz15_2
                  try clear hcz15_3
                  try clear hcz15_4
                  try clear hcz15_5
                  try clear hcz15_6
                  try clear hcz15_7
                  try clear hcz15_8
                  try clear hcz20_0
                  try clear hcz20_1
                  try clear hcz20_2
                  try clear hcz20_3
                  try clear hcz20_4
                  try clear hcz20_5
                  try clear hcz20_6
                  try clear hcz20_7
                  try clear hcz20_8
                  try clear hcz7_0
                  try clear hcz7_1
                  try clear hcz7_2
                  try clear hcz7_3
                  try clear hcz7_4
                  try clear hcz7_5
                  try clear hcz7_6
                  try clear hcz7_7
                  try clear hcz7_8
                  try clear hfz10_0
                  try clear hfz10_1
                  try clear hfz10_2
                  try clear hfz10_3
                  try clear hfz10_4
                  try clear hfz10_5
                  try clear hfz10_6
                  try clear hfz10_7
                  try clear hfz10_8
                  try clear hfz13_0
                  try clear hfz13_1
                  try clear hfz13_2
                  try clear hfz13_3
                  try clear hfz13_4
                  try clear hfz13_5
                  try clear hfz13_6
                  try clear hfz13_7
                  try clear hfz13_8
                  try clear hfz15_0
                  try clear hfz15_1
                  try clear hfz15_2
                  try clear hfz15_3
                  try clear hfz15_4
                  try clear hfz15_5
                  try clear hfz15_6
                  try clear hfz15_7
                  try clear hfz15_8
                  try clear hfz20_0
                  try clear hfz20_1
                  try clear hfz20_2
                  try clear hfz20_3
                  try clear hfz20_4
                  try clear hfz20_5
                  try clear hfz20_6
                  try clear hfz20_7
                  try clear hfz20_8
                  try clear hfz7_0
                  try clear hfz7_1
                  try clear hfz7_2
                  try clear hfz7_3
                  try clear hfz7_4
                  try clear hfz7_5
                  try clear hfz7_6
                  try clear hfz7_7
                  try clear hfz7_8
                  try clear hx136_0
                  try clear hx136_1
                  try clear hx136_2
                  try clear hx136_3
                  try clear hx136_4
                  try clear hx136_5
                  try clear hx136_6
                  try clear hx136_7
                  try clear hx136_8
                  try clear p1
                  try clear p13
                  try clear p136
                  try clear p2
                  try clear q1
                  try clear q13
                  try clear q136
                  obtain ⟨kq, x13_16, rfl, HA, HJ16, BK137, HB⟩ := hcut
                  cases kq with
                  | zero => exact absurd HA.out (by simp [doc_Doc_Right.j2])
                  | succ kj16 =>
                    have H := HA.out
                    clear HA
                    simp only [doc_Doc_Right.j2] at H
                    by_cases c22 : x13_16 = true
                    · subst c22
                      have H1 : (some false) = some r := by rw [if_pos rfl] at H; exact H
                      clear H
                      have H := H1
                      clear H1
                      obtain rfl := Option.some.inj H
                      go_wp2
                      go_ret
                      exact ⟨by first | rfl | (simp [errW_none, errW_some] <;> rfl) | (simp [*, errW_none, errW_some] <;> rfl), by repeat (first | (with_reducible first | exact HB.out | apply below_alloc | apply pw_below_drewN | apply below_drew1 | refine below_set ?_ GE137.out) | exact HB.out)⟩
                    · replace c22 := Bool.eq_false_iff.mpr c22
                      subst c22
                      have H1 : ((doc_Part_isText.f ((rd_T106 l0 x8_1).f0.f0) ((rd_T106 l0 x8_1).f0.f1) ((rd_T106 l0 x8_1).f0.f2) ((rd_T106 l0 x8_1).f1) ((rd_T106 l0 x8_1).f2) ((rd_T106 l0 x8_1).f3) ((rd_T106 l0 x8_1).f4) ((rd_T106 l0 x8_1).f5) ((rd_T106 l0 x8_1).f6)).bind fun t141 => (if t141 = true then (if x3_1 = true then (some false) else (if ((rd_T106 l0 x8_1).f2).toList = ([] : List UInt8) then (some false) else (if x8_1 < (wrap64 ((l0.length : Int) - 1)) then ((strings_HasSuffix.f ((rd_T106 l0 x8_1).f2) (⟨#[10]⟩ : ByteArray)).bind fun t142 => (if t142 = true then ((doc_Part_isText.f ((rd_T106 l0 x8_1).f0.f0) ((rd_T106 l0 x8_1).f0.f1) ((rd_T106 l0 x8_1).f0.f2) ((rd_T106 l0 x8_1).f1) ((rd_T106 l0 x8_1).f2) ((rd_T106 l0 x8_1).f3) ((rd_T106 l0 x8_1).f4) ((rd_T106 l0 x8_1).f5) ((rd_T106 l0 x8_1).f6)).bind fun t143 => (doc_Doc_Right.l0 kj16 l0 t143 l0 (l0.length : Int) (wrap64 (x8_1 + 1)))) else (some false))) else ((doc_Part_isText.f ((rd_T106 l0 x8_1).f0.f0) ((rd_T106 l0 x8_1).f0.f1) ((rd_T106 l0 x8_1).f0.f2) ((rd_T106 l0 x8_1).f1) ((rd_T106 l0 x8_1).f2) ((rd_T106 l0 x8_1).f3) ((rd_T106 l0 x8_1).f4) ((rd_T106 l0 x8_1).f5) ((rd_T106 l0 x8_1).f6)).bind fun t144 => (doc_Doc_Right.l0 kj16 l0 t144 l0 (l0.length : Int) (wrap64 (x8_1 + 1))))))) else ((doc_Part_isText.f ((rd_T106 l0 x8_1).f0.f0) ((rd_T106 l0 x8_1).f0.f1) ((rd_T106 l0 x8_1).f0.f2) ((rd_T106 l0 x8_1).f1) ((rd_T106 l0 x8_1).f2) ((rd_T106 l0 x8_1).f3) ((rd_T106 l0 x8_1).f4) ((rd_T106 l0 x8_1).f5) ((rd_T106 l0 x8_1).f6)).bind fun t145 => (doc_Doc_Right.l0 kj16 l0 t145 l0 (l0.length : Int) (wrap64 (x8_1 + 1)))))) = some r := by rw [if_neg (show ¬ (false = true) by decide)] at H; exact H
                      clear H
                      have H := H1
                      clear H1
                      replace H := Option.bind_eq_some_iff.mp H
                      obtain ⟨t141, A230, H⟩ := H
                      replace H : (if t141 = true then (if x3_1 = true then (some false) else (if ((rd_T106 l0 x8_1).f2).toList = ([] : List UInt8) then (some false) else (if x8_1 < (wrap64 ((l0.length : Int) - 1)) then ((strings_HasSuffix.f ((rd_T106 l0 x8_1).f2) (⟨#[10]⟩ : ByteArray)).bind fun t142 => (if t142 = true then ((doc_Part_isText.f ((rd_T106 l0 x8_1).f0.f0) ((rd_T106 l0 x8_1).f0.f1) ((rd_T106 l0 x8_1).f0.f2) ((rd_T106 l0 x8_1).f1) ((rd_T106 l0 x8_1).f2) ((rd_T106 l0 x8_1).f3) ((rd_T106 l0 x8_1).f4) ((rd_T106 l0 x8_1).f5) ((rd_T106 l0 x8_1).f6)).bind fun t143 => (doc_Doc_Right.l0 kj16 l0 t143 l0 (l0.length : Int) (wrap64 (x8_1 + 1)))) else (some false))) else ((doc_Part_isText.f ((rd_T106 l0 x8_1).f0.f0) ((rd_T106 l0 x8_1).f0.f1) ((rd_T106 l0 x8_1).f0.f2) ((rd_T106 l0 x8_1).f1) ((rd_T106 l0 x8_1).f2) ((rd_T106 l0 x8_1).f3) ((rd_T106 l0 x8_1).f4) ((rd_T106 l0 x8_1).f5) ((rd_T106 l0 x8_1).f6)).bind fun t144 => (doc_Doc_Right.l0 kj16 l0 t144 l0 (l0.length : Int) (wrap64 (x8_1 + 1))))))) else ((doc_Part_isText.f ((rd_T106 l0 x8_1).f0.f0) ((rd_T106 l0 x8_1).f0.f1) ((rd_T106 l0 x8_1).f0.f2) ((rd_T106 l0 x8_1).f1) ((rd_T106 l0 x8_1).f2) ((rd_T106 l0 x8_1).f3) ((rd_T106 l0 x8_1).f4) ((rd_T106 l0 x8_1).f5) ((rd_T106 l0 x8_1).f6)).bind fun t145 => (doc_Doc_Right.l0 kj16 l0 t145 l0 (l0.length : Int) (wrap64 (x8_1 + 1))))) = some r := H
                      have A23 := Aside0.mk A230
                      clear A230
                      by_cases c24 : t141 = true
                      · subst c24
                        have H1 : (if x3_1 = true then (some false) else (if ((rd_T106 l0 x8_1).f2).toList = ([] : List UInt8) then (some false) else (if x8_1 < (wrap64 ((l0.length : Int) - 1)) then ((strings_HasSuffix.f ((rd_T106 l0 x8_1).f2) (⟨#[10]⟩ : ByteArray)).bind fun t142 => (if t142 = true then ((doc_Part_isText.f ((rd_T106 l0 x8_1).f0.f0) ((rd_T106 l0 x8_1).f0.f1) ((rd_T106 l0 x8_1).f0.f2) ((rd_T106 l0 x8_1).f1) ((rd_T106 l0 x8_1).f2) ((rd_T106 l0 x8_1).f3) ((rd_T106 l0 x8_1).f4) ((rd_T106 l0 x8_1).f5) ((rd_T106 l0 x8_1).f6)).bind fun t143 => (doc_Doc_Right.l0 kj16 l0 t143 l0 (l0.length : Int) (wrap64 (x8_1 + 1)))) else (some false))) else ((doc_Part_isText.f ((rd_T106 l0 x8_1).f0.f0) ((rd_T106 l0 x8_1).f0.f1) ((rd_T106 l0 x8_1).f0.f2) ((rd_T106 l0 x8_1).f1) ((rd_T106 l0 x8_1).f2) ((rd_T106 l0 x8_1).f3) ((rd_T106 l0 x8_1).f4) ((rd_T106 l0 x8_1).f5) ((rd_T106 l0 x8_1).f6)).bind fun t144 => (doc_Doc_Right.l0 kj16 l0 t144 l0 (l0.length : Int) (wrap64 (x8_1 + 1))))))) = some r := by rw [if_pos rfl] at H; exact H
                        clear H
                        have H := H1
                        clear H1
                        by_cases c25 : x3_1 = true
                        · subst c25
                          have H1 : (some false) = some r := by rw [if_pos rfl] at H; exact H
                          clear H
                          have H := H1
                          clear H1
                          obtain rfl := Option.some.inj H
                          have hcz26_0 : wc.cell? ⟨gb137, 0, none⟩ = some (.string ((rd_T106 l0 x8_1).f0.f0)) := (blk_cell BK137.out 0).trans rfl
                          have hcz26_1 : wc.cell? ⟨gb137, 1, none⟩ = some (.string ((rd_T106 l0 x8_1).f0.f1)) := (blk_cell BK137.out 1).trans rfl
                          have hcz26_2 : wc.cell? ⟨gb137, 2, none⟩ = some (.string ((rd_T106 l0 x8_1).f0.f2)) := (blk_cell BK137.out 2).trans rfl
                          have hcz26_3 : wc.cell? ⟨gb137, 3, none⟩ = some (.bool ((rd_T106 l0 x8_1).f1)) := (blk_cell BK137.out 3).trans rfl
                          have hcz26_4 : wc.cell? ⟨gb137, 4, none⟩ = some (.string ((rd_T106 l0 x8_1).f2)) := (blk_cell BK137.out 4).trans rfl
                          have hcz26_5 : wc.cell? ⟨gb137, 5, none⟩ = some (.string ((rd_T106 l0 x8_1).f3)) := (blk_cell BK137.out 5).trans rfl
                          have hcz26_6 : wc.cell? ⟨gb137, 6, none⟩ = some (.string ((rd_T106 l0 x8_1).f4)) := (blk_cell BK137.out 6).trans rfl
                          have hcz26_7 : wc.cell? ⟨gb137, 7, none⟩ = some (.string ((rd_T106 l0 x8_1).f5)) := (blk_cell BK137.out 7).trans rfl
                          have hcz26_8 : wc.cell? ⟨gb137, 8, none⟩ = some (.bool ((rd_T106 l0 x8_1).f6)) := (blk_cell BK137.out 8).trans rfl
                          have hfz26_0 := blk_frozen BK137.out 0
                          have hfz26_1 := blk_frozen BK137.out 1
                          have hfz26_2 := blk_frozen BK137.out 2
                          have hfz26_3 := blk_frozen BK137.out 3
                          have hfz26_4 := blk_frozen BK137.out 4
                          have hfz26_5 := blk_frozen BK137.out 5
                          have hfz26_6 := blk_frozen BK137.out 6
                          have hfz26_7 := blk_frozen BK137.out 7
                          have hfz26_8 := blk_frozen BK137.out 8
                          go_wp2_with (first | ((with_reducible refine gate_callee (f := 75) rfl ?_); refine goesL_ (some 28) rfl rfl Try.func75 (by kernel_rfl) rfl #[.agg #[.string ((rd_T106 l0 x8_1).f0.f0), .string ((rd_T106 l0 x8_1).f0.f1), .string ((rd_T106 l0 x8_1).f0.f2), .bool ((rd_T106 l0 x8_1).f1), .string ((rd_T106 l0 x8_1).f2), .string ((rd_T106 l0 x8_1).f3), .string ((rd_T106 l0 x8_1).f4), .string ((rd_T106 l0 x8_1).f5), .bool ((rd_T106 l0 x8_1).f6)]] rfl (by (try simp only [List.map_toArray, List.map_cons, List.map_nil]); first | done | rfl | (simp only [List.length_drop, List.length_take]; rfl)) ?_; (with_reducible refine (doc_Part_isText.calls ((rd_T106 l0 x8_1).f0.f0) ((rd_T106 l0 x8_1).f0.f1) ((rd_T106 l0 x8_1).f0.f2) ((rd_T106 l0 x8_1).f1) ((rd_T106 l0 x8_1).f2) ((rd_T106 l0 x8_1).f3) ((rd_T106 l0 x8_1).f4) ((rd_T106 l0 x8_1).f5) ((rd_T106 l0 x8_1).f6) true _ A23.out).mono ?_); rintro e w27 ⟨rfl, hb⟩; refine ⟨_, rfl, ?_⟩; have n0_ := Aside0.mk (blk_below (g := gb137) (o := .cells #[.string ((rd_T106 l0 x8_1).f0.f0), .string ((rd_T106 l0 x8_1).f0.f1), .string ((rd_T106 l0 x8_1).f0.f2), .bool ((rd_T106 l0 x8_1).f1), .string ((rd_T106 l0 x8_1).f2), .string ((rd_T106 l0 x8_1).f3), .string ((rd_T106 l0 x8_1).f4), .string ((rd_T106 l0 x8_1).f5), .bool ((rd_T106 l0 x8_1).f6)] 106 (0, 0)) (by (with_reducible repeat (first | refine blk_drewN ?_ _ | refine blk_drew ?_ | refine blk_alloc ?_ _)); exact BK137.out) hb); have n1_ := Aside0.mk (below_step (by repeat (first | (with_reducible first | exact HB.out | apply below_alloc | apply pw_below_drewN | apply below_drew1 | refine below_set ?_ GE137.out) | exact HB.out)) hb); clear BK137; clear HB; have BK137 := n0_; have HB := n1_; clear n0_ n1_; (try clear hb); (try clear hb2); (try clear hk); (try clear hi)))
                          go_ret
                          exact ⟨by first | rfl | (simp [errW_none, errW_some] <;> rfl) | (simp [*, errW_none, errW_some] <;> rfl), by repeat (first | (with_reducible first | exact HB.out | apply below_alloc | apply pw_below_drewN | apply below_drew1 | refine below_set ?_ GE137.out) | exact HB.out)⟩
                        · replace c25 := Bool.eq_false_iff.mpr c25
                          subst c25
                          have H1 : (if ((rd_T106 l0 x8_1).f2).toList = ([] : List UInt8) then (some false) else (if x8_1 < (wrap64 ((l0.length : Int) - 1)) then ((strings_HasSuffix.f ((rd_T106 l0 x8_1).f2) (⟨#[10]⟩ : ByteArray)).bind fun t142 => (if t142 = true then ((doc_Part_isText.f ((rd_T106 l0 x8_1).f0.f0) ((rd_T106 l0 x8_1).f0.f1) ((rd_T106 l0 x8_1).f0.f2) ((rd_T106 l0 x8_1).f1) ((rd_T106 l0 x8_1).f2) ((rd_T106 l0 x8_1).f3) ((rd_T106 l0 x8_1).f4) ((rd_T106 l0 x8_1).f5) ((rd_T106 l0 x8_1).f6)).bind fun t143 => (doc_Doc_Right.l0 kj16 l0 t143 l0 (l0.length : Int) (wrap64 (x8_1 + 1)))) else (some false))) else ((doc_Part_isText.f ((rd_T106 l0 x8_1).f0.f0) ((rd_T106 l0 x8_1).f0.f1) ((rd_T106 l0 x8_1).f0.f2) ((rd_T106 l0 x8_1).f1) ((rd_T106 l0 x8_1).f2) ((rd_T106 l0 x8_1).f3) ((rd_T106 l0 x8_1).f4) ((rd_T106 l0 x8_1).f5) ((rd_T106 l0 x8_1).f6)).bind fun t144 => (doc_Doc_Right.l0 kj16 l0 t144 l0 (l0.length : Int) (wrap64 (x8_1 + 1)))))) = some r := by rw [if_neg (show ¬ (false = true) by decide)] at H; exact H
                          clear H
                          have H := H1
                          clear H1
                          by_cases c28 : ((rd_T106 l0 x8_1).f2).toList = ([] : List UInt8)
                          · rw [if_pos c28] at H
                            have c28b0 : (((rd_T106 l0 x8_1).f2).toList == ([] : List UInt8)) = true := beq_iff_eq.mpr c28
                            have c28b1 : (((rd_T106 l0 x8_1).f2).toList != ([] : List UInt8)) = false := bne_eq_false_iff_eq.mpr c28
                            clear c28
                            obtain rfl := Option.some.inj H
                            have hcz29_0 : wc.cell? ⟨gb137, 0, none⟩ = some (.string ((rd_T106 l0 x8_1).f0.f0)) := (blk_cell BK137.out 0).trans rfl
                            have hcz29_1 : wc.cell? ⟨gb137, 1, none⟩ = some (.string ((rd_T106 l0 x8_1).f0.f1)) := (blk_cell BK137.out 1).trans rfl
                            have hcz29_2 : wc.cell? ⟨gb137, 2, none⟩ = some (.string ((rd_T106 l0 x8_1).f0.f2)) := (blk_cell BK137.out 2).trans rfl
                            have hcz29_3 : wc.cell? ⟨gb137, 3, none⟩ = some (.bool ((rd_T106 l0 x8_1).f1)) := (blk_cell BK137.out 3).trans rfl
                            have hcz29_4 : wc.cell? ⟨gb137, 4, none⟩ = some (.string ((rd_T106 l0 x8_1).f2)) := (blk_cell BK137.out 4).trans rfl
                            have hcz29_5 : wc.cell? ⟨gb137, 5, none⟩ = some (.string ((rd_T106 l0 x8_1).f3)) := (blk_cell BK137.out 5).trans rfl
                            have hcz29_6 : wc.cell? ⟨gb137, 6, none⟩ = some (.string ((rd_T106 l0 x8_1).f4)) := (blk_cell BK137.out 6).trans rfl
                            have hcz29_7 : wc.cell? ⟨gb137, 7, none⟩ = some (.string ((rd_T106 l0 x8_1).f5)) := (blk_cell BK137.out 7).trans rfl
                            have hcz29_8 : wc.cell? ⟨gb137, 8, none⟩ = some (.bool ((rd_T106 l0 x8_1).f6)) := (blk_cell BK137.out 8).trans rfl
                            have hfz29_0 := blk_frozen BK137.out 0
                            have hfz29_1 := blk_frozen BK137.out 1
                            have hfz29_2 := blk_frozen BK137.out 2
                            have hfz29_3 := blk_frozen BK137.out 3
                            have hfz29_4 := blk_frozen BK137.out 4
                            have hfz29_5 := blk_frozen BK137.out 5
                            have hfz29_6 := blk_frozen BK137.out 6
                            have hfz29_7 := blk_frozen BK137.out 7
                            have hfz29_8 := blk_frozen BK137.out 8
                            go_wp2_with (first | ((with_reducible refine gate_callee (f := 75) rfl ?_); refine goesL_ (some 28) rfl rfl Try.func75 (by kernel_rfl) rfl #[.agg #[.string ((rd_T106 l0 x8_1).f0.f0), .string ((rd_T106 l0 x8_1).f0.f1), .string ((rd_T106 l0 x8_1).f0.f2), .bool ((rd_T106 l0 x8_1).f1), .string ((rd_T106 l0 x8_1).f2), .string ((rd_T106 l0 x8_1).f3), .string ((rd_T106 l0 x8_1).f4), .string ((rd_T106 l0 x8_1).f5), .bool ((rd_T106 l0 x8_1).f6)]] rfl (by (try simp only [List.map_toArray, List.map_cons, List.map_nil]); first | done | rfl | (simp only [List.length_drop, List.length_take]; rfl)) ?_; (with_reducible refine (doc_Part_isText.calls ((rd_T106 l0 x8_1).f0.f0) ((rd_T106 l0 x8_1).f0.f1) ((rd_T106 l0 x8_1).f0.f2) ((rd_T106 l0 x8_1).f1) ((rd_T106 l0 x8_1).f2) ((rd_T106 l0 x8_1).f3) ((rd_T106 l0 x8_1).f4) ((rd_T106 l0 x8_1).f5) ((rd_T106 l0 x8_1).f6) true _ A23.out).mono ?_); rintro e w30 ⟨rfl, hb⟩; refine ⟨_, rfl, ?_⟩; have n0_ := Aside0.mk (blk_below (g := gb137) (o := .cells #[.string ((rd_T106 l0 x8_1).f0.f0), .string ((rd_T106 l0 x8_1).f0.f1), .string ((rd_T106 l0 x8_1).f0.f2), .bool ((rd_T106 l0 x8_1).f1), .string ((rd_T106 l0 x8_1).f2), .string ((rd_T106 l0 x8_1).f3), .string ((rd_T106 l0 x8_1).f4), .string ((rd_T106 l0 x8_1).f5), .bool ((rd_T106 l0 x8_1).f6)] 106 (0, 0)) (by (with_reducible repeat (first | refine blk_drewN ?_ _ | refine blk_drew ?_ | refine blk_alloc ?_ _)); exact BK137.out) hb); have n1_ := Aside0.mk (below_step (by repeat (first | (with_reducible first | exact HB.out | apply below_alloc | apply pw_below_drewN | apply below_drew1 | refine below_set ?_ GE137.out) | exact HB.out)) hb); clear BK137; clear HB; have BK137 := n0_; have HB := n1_; clear n0_ n1_; (try clear hb); (try clear hb2); (try clear hk); (try clear hi); have hcz31_0 : w30.cell? ⟨gb137, 0, none⟩ = some (.string ((rd_T106 l0 x8_1).f0.f0)) := (blk_cell BK137.out 0).trans rfl; have hcz31_1 : w30.cell? ⟨gb137, 1, none⟩ = some (.string ((rd_T106 l0 x8_1).f0.f1)) := (blk_cell BK137.out 1).trans rfl; have hcz31_2 : w30.cell? ⟨gb137, 2, none⟩ = some (.string ((rd_T106 l0 x8_1).f0.f2)) := (blk_cell BK137.out 2).trans rfl; have hcz31_3 : w30.cell? ⟨gb137, 3, none⟩ = some (.bool ((rd_T106 l0 x8_1).f1)) := (blk_cell BK137.out 3).trans rfl; have hcz31_4 : w30.cell? ⟨gb137, 4, none⟩ = some (.string ((rd_T106 l0 x8_1).f2)) := (blk_cell BK137.out 4).trans rfl; have hcz31_5 : w30.cell? ⟨gb137, 5, none⟩ = some (.string ((rd_T106 l0 x8_1).f3)) := (blk_cell BK137.out 5).trans rfl; have hcz31_6 : w30.cell? ⟨gb137, 6, none⟩ = some (.string ((rd_T106 l0 x8_1).f4)) := (blk_cell BK137.out 6).trans rfl; have hcz31_7 : w30.cell? ⟨gb137, 7, none⟩ = some (.string ((rd_T106 l0 x8_1).f5)) := (blk_cell BK137.out 7).trans rfl; have hcz31_8 : w30.cell? ⟨gb137, 8, none⟩ = some (.bool ((rd_T106 l0 x8_1).f6)) := (blk_cell BK137.out 8).trans rfl; have hfz31_0 := blk_frozen BK137.out 0; have hfz31_1 := blk_frozen BK137.out 1; have hfz31_2 := blk_frozen BK137.out 2; have hfz31_3 := blk_frozen BK137.out 3; have hfz31_4 := blk_frozen BK137.out 4; have hfz31_5 := blk_frozen BK137.out 5; have hfz31_6 := blk_frozen BK137.out 6; have hfz31_7 := blk_frozen BK137.out 7; have hfz31_8 := blk_frozen BK137.out 8))
                            go_ret
                            exact ⟨by first | rfl | (simp [errW_none, errW_some] <;> rfl) | (simp [*, errW_none, errW_some] <;> rfl), by repeat (first | (with_reducible first | exact HB.out | apply below_alloc | apply pw_below_drewN | apply below_drew1 | refine below_set ?_ GE137.out) | exact HB.out)⟩
                          · rw [if_neg c28] at H
                            have c28b0 : (((rd_T106 l0 x8_1).f2).toList == ([] : List UInt8)) = false := beq_eq_false_iff_ne.mpr c28
                            have c28b1 : (((rd_T106 l0 x8_1).f2).toList != ([] : List UInt8)) = true := bne_iff_ne.mpr c28
                            by_cases c32 : x8_1 < (wrap64 ((l0.length : Int) - 1))
                            · rw [if_pos c32] at H
                              have c32b0 : decide (x8_1 < (wrap64 ((l0.length : Int) - 1))) = true := decide_eq_true c32
                              clear c32
                              replace H := Option.bind_eq_some_iff.mp H
                              obtain ⟨t142, A330, H⟩ := H
                              replace H : (if t142 = true then ((doc_Part_isText.f ((rd_T106 l0 x8_1).f0.f0) ((rd_T106 l0 x8_1).f0.f1) ((rd_T106 l0 x8_1).f0.f2) ((rd_T106 l0 x8_1).f1) ((rd_T106 l0 x8_1).f2) ((rd_T106 l0 x8_1).f3) ((rd_T106 l0 x8_1).f4) ((rd_T106 l0 x8_1).f5) ((rd_T106 l0 x8_1).f6)).bind fun t143 => (doc_Doc_Right.l0 kj16 l0 t143 l0 (l0.length : Int) (wrap64 (x8_1 + 1)))) else (some false)) = some r := H
                              have A33 := Aside0.mk A330
                              clear A330
                              by_cases c34 : t142 = true
                              · subst c34
                                have H1 : ((doc_Part_isText.f ((rd_T106 l0 x8_1).f0.f0) ((rd_T106 l0 x8_1).f0.f1) ((rd_T106 l0 x8_1).f0.f2) ((rd_T106 l0 x8_1).f1) ((rd_T106 l0 x8_1).f2) ((rd_T106 l0 x8_1).f3) ((rd_T106 l0 x8_1).f4) ((rd_T106 l0 x8_1).f5) ((rd_T106 l0 x8_1).f6)).bind fun t143 => (doc_Doc_Right.l0 kj16 l0 t143 l0 (l0.length : Int) (wrap64 (x8_1 + 1)))) = some r := by rw [if_pos rfl] at H; exact H
                                clear H
                                have H := H1
                                clear H1
                                replace H := Option.bind_eq_some_iff.mp H
                                obtain ⟨t143, A350, H⟩ := H
                                replace H : (doc_Doc_Right.l0 kj16 l0 t143 l0 (l0.length : Int) (wrap64 (x8_1 + 1))) = some r := H
                                have A35 := Aside0.mk A350
                                clear A350
                                have H' := Aside0.mk H
                                clear H
                                have hcz36_0 : wc.cell? ⟨gb137, 0, none⟩ = some (.string ((rd_T106 l0 x8_1).f0.f0)) := (blk_cell BK137.out 0).trans rfl
                                have hcz36_1 : wc.cell? ⟨gb137, 1, none⟩ = some (.string ((rd_T106 l0 x8_1).f0.f1)) := (blk_cell BK137.out 1).trans rfl
                                have hcz36_2 : wc.cell? ⟨gb137, 2, none⟩ = some (.string ((rd_T106 l0 x8_1).f0.f2)) := (blk_cell BK137.out 2).trans rfl
                                have hcz36_3 : wc.cell? ⟨gb137, 3, none⟩ = some (.bool ((rd_T106 l0 x8_1).f1)) := (blk_cell BK137.out 3).trans rfl
                                have hcz36_4 : wc.cell? ⟨gb137, 4, none⟩ = some (.string ((rd_T106 l0 x8_1).f2)) := (blk_cell BK137.out 4).trans rfl
                                have hcz36_5 : wc.cell? ⟨gb137, 5, none⟩ = some (.string ((rd_T106 l0 x8_1).f3)) := (blk_cell BK137.out 5).trans rfl
                                have hcz36_6 : wc.cell? ⟨gb137, 6, none⟩ = some (.string ((rd_T106 l0 x8_1).f4)) := (blk_cell BK137.out 6).trans rfl
                                have hcz36_7 : wc.cell? ⟨gb137, 7, none⟩ = some (.string ((rd_T106 l0 x8_1).f5)) := (blk_cell BK137.out 7).trans rfl
                                have hcz36_8 : wc.cell? ⟨gb137, 8, none⟩ = some (.bool ((rd_T106 l0 x8_1).f6)) := (blk_cell BK137.out 8).trans rfl
                                have hfz36_0 := blk_frozen BK137.out 0
                                have hfz36_1 := blk_frozen BK137.out 1
                                have hfz36_2 := blk_frozen BK137.out 2
                                have hfz36_3 := blk_frozen BK137.out 3
                                have hfz36_4 := blk_frozen BK137.out 4
                                have hfz36_5 := blk_frozen BK137.out 5
                                have hfz36_6 := blk_frozen BK137.out 6
                                have hfz36_7 := blk_frozen BK137.out 7
                                have hfz36_8 := blk_frozen BK137.out 8
                                go_wp2_with (first | ((with_reducible refine gate_callee (f := 75) rfl ?_); refine goesL_ (some 28) rfl rfl Try.func75 (by kernel_rfl) rfl #[.agg #[.string ((rd_T106 l0 x8_1).f0.f0), .string ((rd_T106 l0 x8_1).f0.f1), .string ((rd_T106 l0 x8_1).f0.f2), .bool ((rd_T106 l0 x8_1).f1), .string ((rd_T106 l0 x8_1).f2), .string ((rd_T106 l0 x8_1).f3), .string ((rd_T106 l0 x8_1).f4), .string ((rd_T106 l0 x8_1).f5), .bool ((rd_T106 l0 x8_1).f6)]] rfl (by (try simp only [List.map_toArray, List.map_cons, List.map_nil]); first | done | rfl | (simp only [List.length_drop, List.length_take]; rfl)) ?_; (with_reducible refine (doc_Part_isText.calls ((rd_T106 l0 x8_1).f0.f0) ((rd_T106 l0 x8_1).f0.f1) ((rd_T106 l0 x8_1).f0.f2) ((rd_T106 l0 x8_1).f1) ((rd_T106 l0 x8_1).f2) ((rd_T106 l0 x8_1).f3) ((rd_T106 l0 x8_1).f4) ((rd_T106 l0 x8_1).f5) ((rd_T106 l0 x8_1).f6) true _ A23.out).mono ?_); rintro e w37 ⟨rfl, hb⟩; refine ⟨_, rfl, ?_⟩; have n0_ := Aside0.mk (blk_below (g := gb137) (o := .cells #[.string ((rd_T106 l0 x8_1).f0.f0), .string ((rd_T106 l0 x8_1).f0.f1), .string ((rd_T106 l0 x8_1).f0.f2), .bool ((rd_T106 l0 x8_1).f1), .string ((rd_T106 l0 x8_1).f2), .string ((rd_T106 l0 x8_1).f3), .string ((rd_T106 l0 x8_1).f4), .string ((rd_T106 l0 x8_1).f5), .bool ((rd_T106 l0 x8_1).f6)] 106 (0, 0)) (by (with_reducible repeat (first | refine blk_drewN ?_ _ | refine blk_drew ?_ | refine blk_alloc ?_ _)); exact BK137.out) hb); have n1_ := Aside0.mk (below_step (by repeat (first | (with_reducible first | exact HB.out | apply below_alloc | apply pw_below_drewN | apply below_drew1 | refine below_set ?_ GE137.out) | exact HB.out)) hb); clear BK137; clear HB; have BK137 := n0_; have HB := n1_; clear n0_ n1_; (try clear hb); (try clear hb2); (try clear hk); (try clear hi); have hcz38_0 : w37.cell? ⟨gb137, 0, none⟩ = some (.string ((rd_T106 l0 x8_1).f0.f0)) := (blk_cell BK137.out 0).trans rfl; have hcz38_1 : w37.cell? ⟨gb137, 1, none⟩ = some (.string ((rd_T106 l0 x8_1).f0.f1)) := (blk_cell BK137.out 1).trans rfl; have hcz38_2 : w37.cell? ⟨gb137, 2, none⟩ = some (.string ((rd_T106 l0 x8_1).f0.f2)) := (blk_cell BK137.out 2).trans rfl; have hcz38_3 : w37.cell? ⟨gb137, 3, none⟩ = some (.bool ((rd_T106 l0 x8_1).f1)) := (blk_cell BK137.out 3).trans rfl; have hcz38_4 : w37.cell? ⟨gb137, 4, none⟩ = some (.string ((rd_T106 l0 x8_1).f2)) := (blk_cell BK137.out 4).trans rfl; have hcz38_5 : w37.cell? ⟨gb137, 5, none⟩ = some (.string ((rd_T106 l0 x8_1).f3)) := (blk_cell BK137.out 5).trans rfl; have hcz38_6 : w37.cell? ⟨gb137, 6, none⟩ = some (.string ((rd_T106 l0 x8_1).f4)) := (blk_cell BK137.out 6).trans rfl; have hcz38_7 : w37.cell? ⟨gb137, 7, none⟩ = some (.string ((rd_T106 l0 x8_1).f5)) := (blk_cell BK137.out 7).trans rfl; have hcz38_8 : w37.cell? ⟨gb137, 8, none⟩ = some (.bool ((rd_T106 l0 x8_1).f6)) := (blk_cell BK137.out 8).trans rfl; have hfz38_0 := blk_frozen BK137.out 0; have hfz38_1 := blk_frozen BK137.out 1; have hfz38_2 := blk_frozen BK137.out 2; have hfz38_3 := blk_frozen BK137.out 3; have hfz38_4 := blk_frozen BK137.out 4; have hfz38_5 := blk_frozen BK137.out 5; have hfz38_6 := blk_frozen BK137.out 6; have hfz38_7 := blk_frozen BK137.out 7; have hfz38_8 := blk_frozen BK137.out 8) | (go_at_call 115; (with_reducible refine (strings_HasSuffix.calls ((rd_T106 l0 x8_1).f2) (⟨#[10]⟩ : ByteArray) true _ A33.out).mono ?_); rintro e w' ⟨rfl, ⟨nd, rfl⟩⟩) | ((with_reducible refine gate_callee (f := 75) rfl ?_); refine goesL_ (some 51) rfl rfl Try.func75 (by kernel_rfl) rfl #[.agg #[.string ((rd_T106 l0 x8_1).f0.f0), .string ((rd_T106 l0 x8_1).f0.f1), .string ((rd_T106 l0 x8_1).f0.f2), .bool ((rd_T106 l0 x8_1).f1), .string ((rd_T106 l0 x8_1).f2), .string ((rd_T106 l0 x8_1).f3), .string ((rd_T106 l0 x8_1).f4), .string ((rd_T106 l0 x8_1).f5), .bool ((rd_T106 l0 x8_1).f6)]] rfl (by (try simp only [List.map_toArray, List.map_cons, List.map_nil]); first | done | rfl | (simp only [List.length_drop, List.length_take]; rfl)) ?_; (with_reducible refine (doc_Part_isText.calls ((rd_T106 l0 x8_1).f0.f0) ((rd_T106 l0 x8_1).f0.f1) ((rd_T106 l0 x8_1).f0.f2) ((rd_T106 l0 x8_1).f1) ((rd_T106 l0 x8_1).f2) ((rd_T106 l0 x8_1).f3) ((rd_T106 l0 x8_1).f4) ((rd_T106 l0 x8_1).f5) ((rd_T106 l0 x8_1).f6) t143 _ A35.out).mono ?_); rintro e w39 ⟨rfl, hb⟩; refine ⟨_, rfl, ?_⟩; have n0_ := Aside0.mk (blk_below (g := gb137) (o := .cells #[.string ((rd_T106 l0 x8_1).f0.f0), .string ((rd_T106 l0 x8_1).f0.f1), .string ((rd_T106 l0 x8_1).f0.f2), .bool ((rd_T106 l0 x8_1).f1), .string ((rd_T106 l0 x8_1).f2), .string ((rd_T106 l0 x8_1).f3), .string ((rd_T106 l0 x8_1).f4), .string ((rd_T106 l0 x8_1).f5), .bool ((rd_T106 l0 x8_1).f6)] 106 (0, 0)) (by (with_reducible repeat (first | refine blk_drewN ?_ _ | refine blk_drew ?_ | refine blk_alloc ?_ _)); exact BK137.out) hb); have n1_ := Aside0.mk (below_step (by repeat (first | (with_reducible first | exact HB.out | apply below_alloc | apply pw_below_drewN | apply below_drew1 | refine below_set ?_ GE137.out) | exact HB.out)) hb); clear BK137; clear HB; have BK137 := n0_; have HB := n1_; clear n0_ n1_; (try clear hb); (try clear hb2); (try clear hk); (try clear hi)))
                                go_roundg kj16
                                case measure => have := HK1.out; have := HJ4.out; have := HJ16.out; omega
                                case rel => exact ⟨(t143), (wrap64 (x8_1 + 1)), (by first | rfl | (simp; done) | (simp [*]; done)), (by first | rfl | (simp; done) | (simp [*]; done)), H', ⟨by have := HK1.out; have := HJ4.out; have := HJ16.out; omega⟩, ⟨by repeat (first | (with_reducible first | exact HB.out | apply below_alloc | apply pw_below_drewN | apply below_drew1 | refine below_set ?_ GE137.out) | exact HB.out)⟩⟩
                              · replace c34 := Bool.eq_false_iff.mpr c34
                                subst c34
                                have H1 : (some false) = some r := by rw [if_neg (show ¬ (false = true) by decide)] at H; exact H
                                clear H
                                have H := H1
                                clear H1
                                obtain rfl := Option.some.inj H
                                have hcz40_0 : wc.cell? ⟨gb137, 0, none⟩ = some (.string ((rd_T106 l0 x8_1).f0.f0)) := (blk_cell BK137.out 0).trans rfl
                                have hcz40_1 : wc.cell? ⟨gb137, 1, none⟩ = some (.string ((rd_T106 l0 x8_1).f0.f1)) := (blk_cell BK137.out 1).trans rfl
                                have hcz40_2 : wc.cell? ⟨gb137, 2, none⟩ = some (.string ((rd_T106 l0 x8_1).f0.f2)) := (blk_cell BK137.out 2).trans rfl
                                have hcz40_3 : wc.cell? ⟨gb137, 3, none⟩ = some (.bool ((rd_T106 l0 x8_1).f1)) := (blk_cell BK137.out 3).trans rfl
                                have hcz40_4 : wc.cell? ⟨gb137, 4, none⟩ = some (.string ((rd_T106 l0 x8_1).f2)) := (blk_cell BK137.out 4).trans rfl
                                have hcz40_5 : wc.cell? ⟨gb137, 5, none⟩ = some (.string ((rd_T106 l0 x8_1).f3)) := (blk_cell BK137.out 5).trans rfl
                                have hcz40_6 : wc.cell? ⟨gb137, 6, none⟩ = some (.string ((rd_T106 l0 x8_1).f4)) := (blk_cell BK137.out 6).trans rfl
                                have hcz40_7 : wc.cell? ⟨gb137, 7, none⟩ = some (.string ((rd_T106 l0 x8_1).f5)) := (blk_cell BK137.out 7).trans rfl
                                have hcz40_8 : wc.cell? ⟨gb137, 8, none⟩ = some (.bool ((rd_T106 l0 x8_1).f6)) := (blk_cell BK137.out 8).trans rfl
                                have hfz40_0 := blk_frozen BK137.out 0
                                have hfz40_1 := blk_frozen BK137.out 1
                                have hfz40_2 := blk_frozen BK137.out 2
                                have hfz40_3 := blk_frozen BK137.out 3
                                have hfz40_4 := blk_frozen BK137.out 4
                                have hfz40_5 := blk_frozen BK137.out 5
                                have hfz40_6 := blk_frozen BK137.out 6
                                have hfz40_7 := blk_frozen BK137.out 7
                                have hfz40_8 := blk_frozen BK137.out 8
                                go_wp2_with (first | ((with_reducible refine gate_callee (f := 75) rfl ?_); refine goesL_ (some 28) rfl rfl Try.func75 (by kernel_rfl) rfl #[.agg #[.string ((rd_T106 l0 x8_1).f0.f0), .string ((rd_T106 l0 x8_1).f0.f1), .string ((rd_T106 l0 x8_1).f0.f2), .bool ((rd_T106 l0 x8_1).f1), .string ((rd_T106 l0 x8_1).f2), .string ((rd_T106 l0 x8_1).f3), .string ((rd_T106 l0 x8_1).f4), .string ((rd_T106 l0 x8_1).f5), .bool ((rd_T106 l0 x8_1).f6)]] rfl (by (try simp only [List.map_toArray, List.map_cons, List.map_nil]); first | done | rfl | (simp only [List.length_drop, List.length_take]; rfl)) ?_; (with_reducible refine (doc_Part_isText.calls ((rd_T106 l0 x8_1).f0.f0) ((rd_T106 l0 x8_1).f0.f1) ((rd_T106 l0 x8_1).f0.f2) ((rd_T106 l0 x8_1).f1) ((rd_T106 l0 x8_1).f2) ((rd_T106 l0 x8_1).f3) ((rd_T106 l0 x8_1).f4) ((rd_T106 l0 x8_1).f5) ((rd_T106 l0 x8_1).f6) true _ A23.out).mono ?_); rintro e w41 ⟨rfl, hb⟩; refine ⟨_, rfl, ?_⟩; have n0_ := Aside0.mk (blk_below (g := gb137) (o := .cells #[.string ((rd_T106 l0 x8_1).f0.f0), .string ((rd_T106 l0 x8_1).f0.f1), .string ((rd_T106 l0 x8_1).f0.f2), .bool ((rd_T106 l0 x8_1).f1), .string ((rd_T106 l0 x8_1).f2), .string ((rd_T106 l0 x8_1).f3), .string ((rd_T106 l0 x8_1).f4), .string ((rd_T106 l0 x8_1).f5), .bool ((rd_T106 l0 x8_1).f6)] 106 (0, 0)) (by (with_reducible repeat (first | refine blk_drewN ?_ _ | refine blk_drew ?_ | refine blk_alloc ?_ _)); exact BK137.out) hb); have n1_ := Aside0.mk (below_step (by repeat (first | (with_reducible first | exact HB.out | apply below_alloc | apply pw_below_drewN | apply below_drew1 | refine below_set ?_ GE137.out) | exact HB.out)) hb); clear BK137; clear HB; have BK137 := n0_; have HB := n1_; clear n0_ n1_; (try clear hb); (try clear hb2); (try clear hk); (try clear hi); have hcz42_0 : w41.cell? ⟨gb137, 0, none⟩ = some (.string ((rd_T106 l0 x8_1).f0.f0)) := (blk_cell BK137.out 0).trans rfl; have hcz42_1 : w41.cell? ⟨gb137, 1, none⟩ = some (.string ((rd_T106 l0 x8_1).f0.f1)) := (blk_cell BK137.out 1).trans rfl; have hcz42_2 : w41.cell? ⟨gb137, 2, none⟩ = some (.string ((rd_T106 l0 x8_1).f0.f2)) := (blk_cell BK137.out 2).trans rfl; have hcz42_3 : w41.cell? ⟨gb137, 3, none⟩ = some (.bool ((rd_T106 l0 x8_1).f1)) := (blk_cell BK137.out 3).trans rfl; have hcz42_4 : w41.cell? ⟨gb137, 4, none⟩ = some (.string ((rd_T106 l0 x8_1).f2)) := (blk_cell BK137.out 4).trans rfl; have hcz42_5 : w41.cell? ⟨gb137, 5, none⟩ = some (.string ((rd_T106 l0 x8_1).f3)) := (blk_cell BK137.out 5).trans rfl; have hcz42_6 : w41.cell? ⟨gb137, 6, none⟩ = some (.string ((rd_T106 l0 x8_1).f4)) := (blk_cell BK137.out 6).trans rfl; have hcz42_7 : w41.cell? ⟨gb137, 7, none⟩ = some (.string ((rd_T106 l0 x8_1).f5)) := (blk_cell BK137.out 7).trans rfl; have hcz42_8 : w41.cell? ⟨gb137, 8, none⟩ = some (.bool ((rd_T106 l0 x8_1).f6)) := (blk_cell BK137.out 8).trans rfl; have hfz42_0 := blk_frozen BK137.out 0; have hfz42_1 := blk_frozen BK137.out 1; have hfz42_2 := blk_frozen BK137.out 2; have hfz42_3 := blk_frozen BK137.out 3; have hfz42_4 := blk_frozen BK137.out 4; have hfz42_5 := blk_frozen BK137.out 5; have hfz42_6 := blk_frozen BK137.out 6; have hfz42_7 := blk_frozen BK137.out 7; have hfz42_8 := blk_frozen BK137.out 8) | (go_at_call 115; (with_reducible refine (strings_HasSuffix.calls ((rd_T106 l0 x8_1).f2) (⟨#[10]⟩ : ByteArray) false _ A33.out).mono ?_); rintro e w' ⟨rfl, ⟨nd, rfl⟩⟩))
                                go_ret
                                exact ⟨by first | rfl | (simp [errW_none, errW_some] <;> rfl) | (simp [*, errW_none, errW_some] <;> rfl), by repeat (first | (with_reducible first | exact HB.out | apply below_alloc | apply pw_below_drewN | apply below_drew1 | refine below_set ?_ GE137.out) | exact HB.out)⟩
                            · rw [if_neg c32] at H
                              have c32b0 : decide (x8_1 < (wrap64 ((l0.length : Int) - 1))) = false := decide_eq_false c32
                              clear c32
                              replace H := Option.bind_eq_some_iff.mp H
                              obtain ⟨t144, A430, H⟩ := H
                              replace H : (doc_Doc_Right.l0 kj16 l0 t144 l0 (l0.length : Int) (wrap64 (x8_1 + 1))) = some r := H
                              have A43 := Aside0.mk A430
                              clear A430
                              have H' := Aside0.mk H
                              clear H
                              have hcz44_0 : wc.cell? ⟨gb137, 0, none⟩ = some (.string ((rd_T106 l0 x8_1).f0.f0)) := (blk_cell BK137.out 0).trans rfl
                              have hcz44_1 : wc.cell? ⟨gb137, 1, none⟩ = some (.string ((rd_T106 l0 x8_1).f0.f1)) := (blk_cell BK137.out 1).trans rfl
                              have hcz44_2 : wc.cell? ⟨gb137, 2, none⟩ = some (.string ((rd_T106 l0 x8_1).f0.f2)) := (blk_cell BK137.out 2).trans rfl
                              have hcz44_3 : wc.cell? ⟨gb137, 3, none⟩ = some (.bool ((rd_T106 l0 x8_1).f1)) := (blk_cell BK137.out 3).trans rfl
                              have hcz44_4 : wc.cell? ⟨gb137, 4, none⟩ = some (.string ((rd_T106 l0 x8_1).f2)) := (blk_cell BK137.out 4).trans rfl
                              have hcz44_5 : wc.cell? ⟨gb137, 5, none⟩ = some (.string ((rd_T106 l0 x8_1).f3)) := (blk_cell BK137.out 5).trans rfl
                              have hcz44_6 : wc.cell? ⟨gb137, 6, none⟩ = some (.string ((rd_T106 l0 x8_1).f4)) := (blk_cell BK137.out 6).trans rfl
                              have hcz44_7 : wc.cell? ⟨gb137, 7, none⟩ = some (.string ((rd_T106 l0 x8_1).f5)) := (blk_cell BK137.out 7).trans rfl
                              have hcz44_8 : wc.cell? ⟨gb137, 8, none⟩ = some (.bool ((rd_T106 l0 x8_1).f6)) := (blk_cell BK137.out 8).trans rfl
                              have hfz44_0 := blk_frozen BK137.out 0
                              have hfz44_1 := blk_frozen BK137.out 1
                              have hfz44_2 := blk_frozen BK137.out 2
                              have hfz44_3 := blk_frozen BK137.out 3
                              have hfz44_4 := blk_frozen BK137.out 4
                              have hfz44_5 := blk_frozen BK137.out 5
                              have hfz44_6 := blk_frozen BK137.out 6
                              have hfz44_7 := blk_frozen BK137.out 7
                              have hfz44_8 := blk_frozen BK137.out 8
                              go_wp2_with (first | ((with_reducible refine gate_callee (f := 75) rfl ?_); refine goesL_ (some 28) rfl rfl Try.func75 (by kernel_rfl) rfl #[.agg #[.string ((rd_T106 l0 x8_1).f0.f0), .string ((rd_T106 l0 x8_1).f0.f1), .string ((rd_T106 l0 x8_1).f0.f2), .bool ((rd_T106 l0 x8_1).f1), .string ((rd_T106 l0 x8_1).f2), .string ((rd_T106 l0 x8_1).f3), .string ((rd_T106 l0 x8_1).f4), .string ((rd_T106 l0 x8_1).f5), .bool ((rd_T106 l0 x8_1).f6)]] rfl (by (try simp only [List.map_toArray, List.map_cons, List.map_nil]); first | done | rfl | (simp only [List.length_drop, List.length_take]; rfl)) ?_; (with_reducible refine (doc_Part_isText.calls ((rd_T106 l0 x8_1).f0.f0) ((rd_T106 l0 x8_1).f0.f1) ((rd_T106 l0 x8_1).f0.f2) ((rd_T106 l0 x8_1).f1) ((rd_T106 l0 x8_1).f2) ((rd_T106 l0 x8_1).f3) ((rd_T106 l0 x8_1).f4) ((rd_T106 l0 x8_1).f5) ((rd_T106 l0 x8_1).f6) true _ A23.out).mono ?_); rintro e w45 ⟨rfl, hb⟩; refine ⟨_, rfl, ?_⟩; have n0_ := Aside0.mk (blk_below (g := gb137) (o := .cells #[.string ((rd_T106 l0 x8_1).f0.f0), .string ((rd_T106 l0 x8_1).f0.f1), .string ((rd_T106 l0 x8_1).f0.f2), .bool ((rd_T106 l0 x8_1).f1), .string ((rd_T106 l0 x8_1).f2), .string ((rd_T106 l0 x8_1).f3), .string ((rd_T106 l0 x8_1).f4), .string ((rd_T106 l0 x8_1).f5), .bool ((rd_T106 l0 x8_1).f6)] 106 (0, 0)) (by (with_reducible repeat (first | refine blk_drewN ?_ _ | refine blk_drew ?_ | refine blk_alloc ?_ _)); exact BK137.out) hb); have n1_ := Aside0.mk (below_step (by repeat (first | (with_reducible first | exact HB.out | apply below_alloc | apply pw_below_drewN | apply below_drew1 | refine below_set ?_ GE137.out) | exact HB.out)) hb); clear BK137; clear HB; have BK137 := n0_; have HB := n1_; clear n0_ n1_; (try clear hb); (try clear hb2); (try clear hk); (try clear hi); have hcz46_0 : w45.cell? ⟨gb137, 0, none⟩ = some (.string ((rd_T106 l0 x8_1).f0.f0)) := (blk_cell BK137.out 0).trans rfl; have hcz46_1 : w45.cell? ⟨gb137, 1, none⟩ = some (.string ((rd_T106 l0 x8_1).f0.f1)) := (blk_cell BK137.out 1).trans rfl; have hcz46_2 : w45.cell? ⟨gb137, 2, none⟩ = some (.string ((rd_T106 l0 x8_1).f0.f2)) := (blk_cell BK137.out 2).trans rfl; have hcz46_3 : w45.cell? ⟨gb137, 3, none⟩ = some (.bool ((rd_T106 l0 x8_1).f1)) := (blk_cell BK137.out 3).trans rfl; have hcz46_4 : w45.cell? ⟨gb137, 4, none⟩ = some (.string ((rd_T106 l0 x8_1).f2)) := (blk_cell BK137.out 4).trans rfl; have hcz46_5 : w45.cell? ⟨gb137, 5, none⟩ = some (.string ((rd_T106 l0 x8_1).f3)) := (blk_cell BK137.out 5).trans rfl; have hcz46_6 : w45.cell? ⟨gb137, 6, none⟩ = some (.string ((rd_T106 l0 x8_1).f4)) := (blk_cell BK137.out 6).trans rfl; have hcz46_7 : w45.cell? ⟨gb137, 7, none⟩ = some (.string ((rd_T106 l0 x8_1).f5)) := (blk_cell BK137.out 7).trans rfl; have hcz46_8 : w45.cell? ⟨gb137, 8, none⟩ = some (.bool ((rd_T106 l0 x8_1).f6)) := (blk_cell BK137.out 8).trans rfl; have hfz46_0 := blk_frozen BK137.out 0; have hfz46_1 := blk_frozen BK137.out 1; have hfz46_2 := blk_frozen BK137.out 2; have hfz46_3 := blk_frozen BK137.out 3; have hfz46_4 := blk_frozen BK137.out 4; have hfz46_5 := blk_frozen BK137.out 5; have hfz46_6 := blk_frozen BK137.out 6; have hfz46_7 := blk_frozen BK137.out 7; have hfz46_8 := blk_frozen BK137.out 8) | ((with_reducible refine gate_callee (f := 75) rfl ?_); refine goesL_ (some 51) rfl rfl Try.func75 (by kernel_rfl) rfl #[.agg #[.string ((rd_T106 l0 x8_1).f0.f0), .string ((rd_T106 l0 x8_1).f0.f1), .string ((rd_T106 l0 x8_1).f0.f2), .bool ((rd_T106 l0 x8_1).f1), .string ((rd_T106 l0 x8_1).f2), .string ((rd_T106 l0 x8_1).f3), .string ((rd_T106 l0 x8_1).f4), .string ((rd_T106 l0 x8_1).f5), .bool ((rd_T106 l0 x8_1).f6)]] rfl (by (try simp only [List.map_toArray, List.map_cons, List.map_nil]); first | done | rfl | (simp only [List.length_drop, List.length_take]; rfl)) ?_; (with_reducible refine (doc_Part_isText.calls ((rd_T106 l0 x8_1).f0.f0) ((rd_T106 l0 x8_1).f0.f1) ((rd_T106 l0 x8_1).f0.f2) ((rd_T106 l0 x8_1).f1) ((rd_T106 l0 x8_1).f2) ((rd_T106 l0 x8_1).f3) ((rd_T106 l0 x8_1).f4) ((rd_T106 l0 x8_1).f5) ((rd_T106 l0 x8_1).f6) t144 _ A43.out).mono ?_); rintro e w47 ⟨rfl, hb⟩; refine ⟨_, rfl, ?_⟩; have n0_ := Aside0.mk (blk_below (g := gb137) (o := .cells #[.string ((rd_T106 l0 x8_1).f0.f0), .string ((rd_T106 l0 x8_1).f0.f1), .string ((rd_T106 l0 x8_1).f0.f2), .bool ((rd_T106 l0 x8_1).f1), .string ((rd_T106 l0 x8_1).f2), .string ((rd_T106 l0 x8_1).f3), .string ((rd_T106 l0 x8_1).f4), .string ((rd_T106 l0 x8_1).f5), .bool ((rd_T106 l0 x8_1).f6)] 106 (0, 0)) (by (with_reducible repeat (first | refine blk_drewN ?_ _ | refine blk_drew ?_ | refine blk_alloc ?_ _)); exact BK137.out) hb); have n1_ := Aside0.mk (below_step (by repeat (first | (with_reducible first | exact HB.out | apply below_alloc | apply pw_below_drewN | apply below_drew1 | refine below_set ?_ GE137.out) | exact HB.out)) hb); clear BK137; clear HB; have BK137 := n0_; have HB := n1_; clear n0_ n1_; (try clear hb); (try clear hb2); (try clear hk); (try clear hi)))
                              go_roundg kj16
                              case measure => have := HK1.out; have := HJ4.out; have := HJ16.out; omega
                              case rel => exact ⟨(t144), (wrap64 (x8_1 + 1)), (by first | rfl | (simp; done) | (simp [*]; done)), (by first | rfl | (simp; done) | (simp [*]; done)), H', ⟨by have := HK1.out; have := HJ4.out; have := HJ16.out; omega⟩, ⟨by repeat (first | (with_reducible first | exact HB.out | apply below_alloc | apply pw_below_drewN | apply below_drew1 | refine below_set ?_ GE137.out) | exact HB.out)⟩⟩
                      · replace c24 := Bool.eq_false_iff.mpr c24
                        subst c24
                        have H1 : ((doc_Part_isText.f ((rd_T106 l0 x8_1).f0.f0) ((rd_T106 l0 x8_1).f0.f1) ((rd_T106 l0 x8_1).f0.f2) ((rd_T106 l0 x8_1).f1) ((rd_T106 l0 x8_1).f2) ((rd_T106 l0 x8_1).f3) ((rd_T106 l0 x8_1).f4) ((rd_T106 l0 x8_1).f5) ((rd_T106 l0 x8_1).f6)).bind fun t145 => (doc_Doc_Right.l0 kj16 l0 t145 l0 (l0.length : Int) (wrap64 (x8_1 + 1)))) = some r := by rw [if_neg (show ¬ (false = true) by decide)] at H; exact H
                        clear H
                        have H := H1
                        clear H1
                        replace H := Option.bind_eq_some_iff.mp H
                        obtain ⟨t145, A480, H⟩ := H
                        replace H : (doc_Doc_Right.l0 kj16 l0 t145 l0 (l0.length : Int) (wrap64 (x8_1 + 1))) = some r := H
                        have A48 := Aside0.mk A480
                        clear A480
                        have H' := Aside0.mk H
                        clear H
                        have hcz49_0 : wc.cell? ⟨gb137, 0, none⟩ = some (.string ((rd_T106 l0 x8_1).f0.f0)) := (blk_cell BK137.out 0).trans rfl
                        have hcz49_1 : wc.cell? ⟨gb137, 1, none⟩ = some (.string ((rd_T106 l0 x8_1).f0.f1)) := (blk_cell BK137.out 1).trans rfl
                        have hcz49_2 : wc.cell? ⟨gb137, 2, none⟩ = some (.string ((rd_T106 l0 x8_1).f0.f2)) := (blk_cell BK137.out 2).trans rfl
                        have hcz49_3 : wc.cell? ⟨gb137, 3, none⟩ = some (.bool ((rd_T106 l0 x8_1).f1)) := (blk_cell BK137.out 3).trans rfl
                        have hcz49_4 : wc.cell? ⟨gb137, 4, none⟩ = some (.string ((rd_T106 l0 x8_1).f2)) := (blk_cell BK137.out 4).trans rfl
                        have hcz49_5 : wc.cell? ⟨gb137, 5, none⟩ = some (.string ((rd_T106 l0 x8_1).f3)) := (blk_cell BK137.out 5).trans rfl
                        have hcz49_6 : wc.cell? ⟨gb137, 6, none⟩ = some (.string ((rd_T106 l0 x8_1).f4)) := (blk_cell BK137.out 6).trans rfl
                        have hcz49_7 : wc.cell? ⟨gb137, 7, none⟩ = some (.string ((rd_T106 l0 x8_1).f5)) := (blk_cell BK137.out 7).trans rfl
                        have hcz49_8 : wc.cell? ⟨gb137, 8, none⟩ = some (.bool ((rd_T106 l0 x8_1).f6)) := (blk_cell BK137.out 8).trans rfl
                        have hfz49_0 := blk_frozen BK137.out 0
                        have hfz49_1 := blk_frozen BK137.out 1
                        have hfz49_2 := blk_frozen BK137.out 2
                        have hfz49_3 := blk_frozen BK137.out 3
                        have hfz49_4 := blk_frozen BK137.out 4
                        have hfz49_5 := blk_frozen BK137.out 5
                        have hfz49_6 := blk_frozen BK137.out 6
                        have hfz49_7 := blk_frozen BK137.out 7
                        have hfz49_8 := blk_frozen BK137.out 8
                        go_wp2_with (first | ((with_reducible refine gate_callee (f := 75) rfl ?_); refine goesL_ (some 28) rfl rfl Try.func75 (by kernel_rfl) rfl #[.agg #[.string ((rd_T106 l0 x8_1).f0.f0), .string ((rd_T106 l0 x8_1).f0.f1), .string ((rd_T106 l0 x8_1).f0.f2), .bool ((rd_T106 l0 x8_1).f1), .string ((rd_T106 l0 x8_1).f2), .string ((rd_T106 l0 x8_1).f3), .string ((rd_T106 l0 x8_1).f4), .string ((rd_T106 l0 x8_1).f5), .bool ((rd_T106 l0 x8_1).f6)]] rfl (by (try simp only [List.map_toArray, List.map_cons, List.map_nil]); first | done | rfl | (simp only [List.length_drop, List.length_take]; rfl)) ?_; (with_reducible refine (doc_Part_isText.calls ((rd_T106 l0 x8_1).f0.f0) ((rd_T106 l0 x8_1).f0.f1) ((rd_T106 l0 x8_1).f0.f2) ((rd_T106 l0 x8_1).f1) ((rd_T106 l0 x8_1).f2) ((rd_T106 l0 x8_1).f3) ((rd_T106 l0 x8_1).f4) ((rd_T106 l0 x8_1).f5) ((rd_T106 l0 x8_1).f6) false _ A23.out).mono ?_); rintro e w50 ⟨rfl, hb⟩; refine ⟨_, rfl, ?_⟩; have n0_ := Aside0.mk (blk_below (g := gb137) (o := .cells #[.string ((rd_T106 l0 x8_1).f0.f0), .string ((rd_T106 l0 x8_1).f0.f1), .string ((rd_T106 l0 x8_1).f0.f2), .bool ((rd_T106 l0 x8_1).f1), .string ((rd_T106 l0 x8_1).f2), .string ((rd_T106 l0 x8_1).f3), .string ((rd_T106 l0 x8_1).f4), .string ((rd_T106 l0 x8_1).f5), .bool ((rd_T106 l0 x8_1).f6)] 106 (0, 0)) (by (with_reducible repeat (first | refine blk_drewN ?_ _ | refine blk_drew ?_ | refine blk_alloc ?_ _)); exact BK137.out) hb); have n1_ := Aside0.mk (below_step (by repeat (first | (with_reducible first | exact HB.out | apply below_alloc | apply pw_below_drewN | apply below_drew1 | refine below_set ?_ GE137.out) | exact HB.out)) hb); clear BK137; clear HB; have BK137 := n0_; have HB := n1_; clear n0_ n1_; (try clear hb); (try clear hb2); (try clear hk); (try clear hi); have hcz51_0 : w50.cell? ⟨gb137, 0, none⟩ = some (.string ((rd_T106 l0 x8_1).f0.f0)) := (blk_cell BK137.out 0).trans rfl; have hcz51_1 : w50.cell? ⟨gb137, 1, none⟩ = some (.string ((rd_T106 l0 x8_1).f0.f1)) := (blk_cell BK137.out 1).trans rfl; have hcz51_2 : w50.cell? ⟨gb137, 2, none⟩ = some (.string ((rd_T106 l0 x8_1).f0.f2)) := (blk_cell BK137.out 2).trans rfl; have hcz51_3 : w50.cell? ⟨gb137, 3, none⟩ = some (.bool ((rd_T106 l0 x8_1).f1)) := (blk_cell BK137.out 3).trans rfl; have hcz51_4 : w50.cell? ⟨gb137, 4, none⟩ = some (.string ((rd_T106 l0 x8_1).f2)) := (blk_cell BK137.out 4).trans rfl; have hcz51_5 : w50.cell? ⟨gb137, 5, none⟩ = some (.string ((rd_T106 l0 x8_1).f3)) := (blk_cell BK137.out 5).trans rfl; have hcz51_6 : w50.cell? ⟨gb137, 6, none⟩ = some (.string ((rd_T106 l0 x8_1).f4)) := (blk_cell BK137.out 6).trans rfl; have hcz51_7 : w50.cell? ⟨gb137, 7, none⟩ = some (.string ((rd_T106 l0 x8_1).f5)) := (blk_cell BK137.out 7).trans rfl; have hcz51_8 : w50.cell? ⟨gb137, 8, none⟩ = some (.bool ((rd_T106 l0 x8_1).f6)) := (blk_cell BK137.out 8).trans rfl; have hfz51_0 := blk_frozen BK137.out 0; have hfz51_1 := blk_frozen BK137.out 1; have hfz51_2 := blk_frozen BK137.out 2; have hfz51_3 := blk_frozen BK137.out 3; have hfz51_4 := blk_frozen BK137.out 4; have hfz51_5 := blk_frozen BK137.out 5; have hfz51_6 := blk_frozen BK137.out 6; have hfz51_7 := blk_frozen BK137.out 7; have hfz51_8 := blk_frozen BK137.out 8) | ((with_reducible refine gate_callee (f := 75) rfl ?_); refine goesL_ (some 51) rfl rfl Try.func75 (by kernel_rfl) rfl #[.agg #[.string ((rd_T106 l0 x8_1).f0.f0), .string ((rd_T106 l0 x8_1).f0.f1), .string ((rd_T106 l0 x8_1).f0.f2), .bool ((rd_T106 l0 x8_1).f1), .string ((rd_T106 l0 x8_1).f2), .string ((rd_T106 l0 x8_1).f3), .string ((rd_T106 l0 x8_1).f4), .string ((rd_T106 l0 x8_1).f5), .bool ((rd_T106 l0 x8_1).f6)]] rfl (by (try simp only [List.map_toArray, List.map_cons, List.map_nil]); first | done | rfl | (simp only [List.length_drop, List.length_take]; rfl)) ?_; (with_reducible refine (doc_Part_isText.calls ((rd_T106 l0 x8_1).f0.f0) ((rd_T106 l0 x8_1).f0.f1) ((rd_T106 l0 x8_1).f0.f2) ((rd_T106 l0 x8_1).f1) ((rd_T106 l0 x8_1).f2) ((rd_T106 l0 x8_1).f3) ((rd_T106 l0 x8_1).f4) ((rd_T106 l0 x8_1).f5) ((rd_T106 l0 x8_1).f6) t145 _ A48.out).mono ?_); rintro e w52 ⟨rfl, hb⟩; refine ⟨_, rfl, ?_⟩; have n0_ := Aside0.mk (blk_below (g := gb137) (o := .cells #[.string ((rd_T106 l0 x8_1).f0.f0), .string ((rd_T106 l0 x8_1).f0.f1), .string ((rd_T106 l0 x8_1).f0.f2), .bool ((rd_T106 l0 x8_1).f1), .string ((rd_T106 l0 x8_1).f2), .string ((rd_T106 l0 x8_1).f3), .string ((rd_T106 l0 x8_1).f4), .string ((rd_T106 l0 x8_1).f5), .bool ((rd_T106 l0 x8_1).f6)] 106 (0, 0)) (by (with_reducible repeat (first | refine blk_drewN ?_ _ | refine blk_drew ?_ | refine blk_alloc ?_ _)); exact BK137.out) hb); have n1_ := Aside0.mk (below_step (by repeat (first | (with_reducible first | exact HB.out | apply below_alloc | apply pw_below_drewN | apply below_drew1 | refine below_set ?_ GE137.out) | exact HB.out)) hb); clear BK137; clear HB; have BK137 := n0_; have HB := n1_; clear n0_ n1_; (try clear hb); (try clear hb2); (try clear hk); (try clear hi)))
                        go_roundg kj16
                        case measure => have := HK1.out; have := HJ4.out; have := HJ16.out; omega
                        case rel => exact ⟨(t145), (wrap64 (x8_1 + 1)), (by first | rfl | (simp; done) | (simp [*]; done)), (by first | rfl | (simp; done) | (simp [*]; done)), H', ⟨by have := HK1.out; have := HJ4.out; have := HJ16.out; omega⟩, ⟨by repeat (first | (with_reducible first | exact HB.out | apply below_alloc | apply pw_below_drewN | apply below_drew1 | refine below_set ?_ GE137.out) | exact HB.out)⟩⟩
          · rw [if_neg c4] at H
            exact absurd H (by simp)
        · rw [if_neg c3] at H
          exact absurd H (by simp)
      · rw [if_neg c2] at H
        have c2b0 : decide (x8_1 < (l0.length : Int)) = false := decide_eq_false c2
        clear c2
        obtain rfl := Option.some.inj H
        go_wp2
        go_ret
        exact ⟨by first | rfl | (simp [errW_none, errW_some] <;> rfl) | (simp [*, errW_none, errW_some] <;> rfl), by repeat (first | (with_reducible first | exact HB.out | apply below_alloc | apply pw_below_drewN | apply below_drew1) | exact HB.out)⟩
end Go.Proofs.Ytfiamddinkokbaa.F
end

section
set_option linter.unusedVariables false
set_option linter.unusedSimpArgs false
namespace Go.Proofs.Ytfiamddinkokbaa.F
open Go.RowKit Go.Proofs.YtfiamddinkokbaaW.PrintWords Go.Proofs.YtfiamddinkokbaaW.PrintLast Go.Proofs.YtfiamddinkokbaaW.PrintMore
attribute [local go_sem] max2_int min2_int max_two min_two max_three min_three max_four min_four
set_option linter.unusedVariables false
set_option linter.unusedSimpArgs false
def doc_run.l0 : Nat → Int → List ByteArray → Int → Int → Option (Int)
  | 0, _, _, _, _ => none
  | k + 1, x3, x6, x7, x8 => if x8 < x7 then (if 0 ≤ x8 then (if x8 < (x6.length : Int) then ((lines_Split.f (rdOf ByteArray.empty x6 x8)).bind fun t105 => ((lines_Longest.f k (([t105] : List (List ByteArray)))).bind fun t111 => (doc_run.l0 k (mx x3 t111) x6 x7 (wrap64 (x8 + 1))))) else (none)) else (none)) else (some x3)
def doc_run.f (k : Nat) (l0 : List ByteArray) : Option (Int) := doc_run.l0 k 0 l0 (l0.length : Int) 0
theorem doc_run.mono_l : ∀ k, (∀ y0 y1 y2 y3, LeO (doc_run.l0 k y0 y1 y2 y3) (doc_run.l0 (k + 1) y0 y1 y2 y3))
  | 0 => fun _ _ _ _ r h => by simp [doc_run.l0] at h
  | k + 1 => by
    have ih0 := doc_run.mono_l k
    · intro y0 y1 y2 y3
      unfold doc_run.l0
      repeat' first
      | (with_reducible exact ih0 _ _ _ _)
      | (with_reducible exact lines_Longest.mono _ _)
      | (with_reducible exact LeO.refl _)
      | (with_reducible exact LeO.none _)
      | (with_reducible refine LeO.ite ?_ ?_)
      | (with_reducible refine LeO.bind ?_ (fun _ => ?_))
      | exact ih0 _ _ _ _
      | exact lines_Longest.mono _ _
      | exact LeO.none _
      | refine LeO.ite ?_ ?_
      | refine LeO.bind ?_ (fun _ => ?_)
theorem doc_run.mono : ∀ a0 k, LeO (doc_run.f k a0) (doc_run.f (k + 1) a0) := by
  intro a0 k
  have ih0 := doc_run.mono_l k
  unfold doc_run.f
  repeat' first
      | (with_reducible exact ih0 _ _ _ _)
      | (with_reducible exact lines_Longest.mono _ _)
      | (with_reducible exact LeO.refl _)
      | (with_reducible exact LeO.none _)
      | (with_reducible refine LeO.ite ?_ ?_)
      | (with_reducible refine LeO.bind ?_ (fun _ => ?_))
      | exact ih0 _ _ _ _
      | exact lines_Longest.mono _ _
      | exact LeO.none _
      | refine LeO.ite ?_ ?_
      | refine LeO.bind ?_ (fun _ => ?_)
set_option maxHeartbeats 8000000 in
set_option maxRecDepth 100000 in
theorem doc_run.calls (k : Nat) (A0 : Option Addr) (c0 : Nat) (l0 : List ByteArray) (r : Int) (w : World) (hr0 : Kd.C Kd.string w A0 l0.length l0) (hc0 : l0.length ≤ c0) (h : doc_run.f k l0 = some r) :
    Calls Try.prog 71 #[.slice A0 l0.length c0] w fun e w' => e = .returned (.int .i64 r) ∧ Below w.heap.size w w' := by
  have HR0 := Aside0.mk hr0
  have HC0 := Aside0.mk hc0
  clear hr0 hc0
  have HB := Aside0.mk (Below.refl w.heap.size w)
  have H : (doc_run.l0 k 0 l0 (l0.length : Int) 0) = some r := h
  clear h
  have H' := Aside0.mk H
  clear H
  go_enter Try.func71, Try.ntmps71
  go_wp2
  go_loopg [3, 8] k (fun kq v3 v8 w' => ∃ (x3_1 : Int) (x8_1 : Int), v3 = .int .i64 x3_1 ∧ v8 = .int .i64 x8_1 ∧ Aside0 (doc_run.l0 kq x3_1 l0 (l0.length : Int) x8_1 = some r) ∧ Aside0 (kq ≤ k) ∧ Aside0 (Below w.heap.size w w'))
  case atStart => exact ⟨(0), (0), (by first | rfl | (simp; done) | (simp [*]; done)), (by first | rfl | (simp; done) | (simp [*]; done)), H', ⟨Nat.le_refl _⟩, ⟨by repeat (first | (with_reducible first | exact HB.out | apply below_alloc | apply pw_below_drewN | apply below_drew1) | exact HB.out)⟩⟩
  case round =>
    clear H'
    obtain ⟨x3_1, x8_1, rfl, rfl, HA, HK1, HB⟩ := hrel
    cases gk with
    | zero => exact absurd HA.out (by simp [doc_run.l0])
    | succ k1 =>
      have H := HA.out
      clear HA
      simp only [doc_run.l0] at H
      by_cases c2 : x8_1 < (l0.length : Int)
      · rw [if_pos c2] at H
        have c2b0 : decide (x8_1 < (l0.length : Int)) = true := decide_eq_true c2
        clear c2
        by_cases c3 : 0 ≤ x8_1
        · rw [if_pos c3] at H
          have c3b0 : decide (0 ≤ x8_1) = true := decide_eq_true c3
          clear c3
          by_cases c4 : x8_1 < (l0.length : Int)
          · rw [if_pos c4] at H
            have c4b0 : decide (x8_1 < (l0.length : Int)) = true := decide_eq_true c4
            clear c4
            replace H := Option.bind_eq_some_iff.mp H
            obtain ⟨t105, A50, H⟩ := H
            replace H : ((lines_Longest.f k1 (([t105] : List (List ByteArray)))).bind fun t111 => (doc_run.l0 k1 (mx x3_1 t111) l0 (l0.length : Int) (wrap64 (x8_1 + 1)))) = some r := H
            have A5 := Aside0.mk A50
            clear A50
            obtain ⟨y108, hy108⟩ : ∃ y_ : List (List ByteArray), y_ = (([t105] : List (List ByteArray))) := ⟨_, rfl⟩
            replace H : ((lines_Longest.f k1 y108).bind fun t111 => (doc_run.l0 k1 (mx x3_1 t111) l0 (l0.length : Int) (wrap64 (x8_1 + 1)))) = some r := by first | (rw [hy108]; with_reducible exact H) | (have H2_ := (Option.bind_some _ _).symm.trans H; rw [hy108]; with_reducible exact H2_) | (have H2_ := (Option.bind_some _ _).symm.trans H; with_reducible exact H2_) | with_reducible exact H | (rw [hy108]; exact H) | exact H
            have Ny108 := Aside0.mk hy108
            clear hy108
            replace H := Option.bind_eq_some_iff.mp H
            obtain ⟨t111, A60, H⟩ := H
            replace H : (doc_run.l0 k1 (mx x3_1 t111) l0 (l0.length : Int) (wrap64 (x8_1 + 1))) = some r := H
            have A6 := Aside0.mk A60
            clear A60
            obtain ⟨ji7, hji7⟩ : ∃ j_ : Int, (mx x3_1 t111) = j_ := ⟨_, rfl⟩
            replace H : (doc_run.l0 k1 ji7 l0 (l0.length : Int) (wrap64 (x8_1 + 1))) = some r := by first | (rw [hji7] at H; exact H) | (simp only [hji7] at H ⊢; exact H)
            (try rw [hji7] at A5)
            (try rw [hji7] at A6)
            have hji7_ : (if x3_1 < t111 then t111 else x3_1) = ji7 := hji7
            have H' := Aside0.mk H
            clear H
            have p104 : 0 ≤ (x8_1 : Int) := of_decide_eq_true (by first | (with_reducible assumption) | assumption)
            have q104 : x8_1 < (l0.length : Int) := of_decide_eq_true (by first | (with_reducible assumption) | assumption)
            obtain ⟨ad104, e104, hx104_0⟩ := Kd.at_string HR0.out x8_1 p104 q104
            cases e104
            replace hx104_0 := (HB.out.cell (World.block_lt_of_cell? w _ hx104_0)).trans hx104_0
            replace p104 := eq_true p104
            replace q104 := eq_true q104
            go_wp2_with (first | ((with_reducible refine gate_callee (f := 29) rfl ?_); refine goesL_ (some 14) rfl rfl Try.func29 (by kernel_rfl) rfl #[.string (rdOf ByteArray.empty l0 x8_1)] rfl (by (try simp only [List.map_toArray, List.map_cons, List.map_nil]); first | done | rfl | (simp only [List.length_drop, List.length_take]; rfl)) ?_; (with_reducible refine (lines_Split.calls (rdOf ByteArray.empty l0 x8_1) t105 _ A5.out).mono ?_); rintro e w8 ⟨v106, rfl, ho0, hb⟩; refine ⟨_, rfl, ?_⟩; have n0_ := Aside0.mk (Kd.R_lower ho0 (below_size (by repeat (first | (with_reducible first | exact HB.out | apply below_alloc | apply pw_below_drewN | apply below_drew1) | exact HB.out)))); have n1_ := Aside0.mk (below_step (by repeat (first | (with_reducible first | exact HB.out | apply below_alloc | apply pw_below_drewN | apply below_drew1) | exact HB.out)) hb); clear HB; have HO107 := n0_; have HB := n1_; clear n0_ n1_; (try clear hb); (try clear hb2); (try clear hk); (try clear hi); (try clear ho0); obtain ⟨Ao9, co9, eo9⟩ := Kd.R_slice HO107.out; subst eo9) | ((with_reducible refine gate_dst (N := 15) rfl ?_); refine Kd.N_lit (Kd.slice 9 Kd.string) _ 36 ?hg (N' := 15) ?hd (xs := ([t105] : List (List ByteArray))) (inner := [.slice Ao9 t105.length co9]) (ok := (fun _ => True)) (okp := (fun _ => True)) ?hr ?hp (fun _ hk => hk) ((show ∀ k_, w8.heap.size ≤ k_ → (fun _ => True) k_ from fun k_ hk => trivial) _ (Nat.le_refl _)) (Below.refl _ _) (Nat.le_refl _) (by simp) ?_; (case hd => rfl); (case hg => rfl); (case hr => first | (go_simp; done) | (go_simp; rfl)); (case hp => exact (Reps.one (show Kd.FK (Kd.slice 9 Kd.string) _ _ t105 [.slice Ao9 t105.length co9] from (Kd.FK_slice_mk (Kd.R_reads' (Kd.R_mono (ok' := (fun _ => True)) (HO107.out) (fun k_ hk => trivial))).2.1 (Kd.R_F (Kd.R_mono (ok' := (fun _ => True)) (HO107.out) (fun k_ hk => trivial))))) (Reps.none _ _))); intro v109 w10 ho11 hb hg_ hnew_; clear hg_ hnew_; (first | rw [← Ny108.out] at ho11 | (simp only [Int.reduceToNat] at ho11; rw [← Ny108.out] at ho11)); have n0_ := Aside0.mk (Kd.N_lower ho11 (below_size (by repeat (first | (with_reducible first | exact HB.out | apply below_alloc | apply pw_below_drewN | apply below_drew1) | exact HB.out)))); have n1_ := Aside0.mk (below_step (by repeat (first | (with_reducible first | exact HB.out | apply below_alloc | apply pw_below_drewN | apply below_drew1) | exact HB.out)) hb); clear HB; clear HO107; have HO110 := n0_; have HB := n1_; clear n0_ n1_; clear hb ho11; obtain ⟨Ao12, co12, eo12⟩ := Kd.N_slice HO110.out; subst eo12) | ((with_reducible refine gate_callee (f := 40) rfl ?_); refine goesL_ (some 16) rfl rfl Try.func40 (by kernel_rfl) rfl #[.slice Ao12 y108.length co12] rfl (by (try simp only [List.map_toArray, List.map_cons, List.map_nil]); first | done | rfl | (simp only [List.length_drop, List.length_take]; rfl)) ?_; (with_reducible refine (lines_Longest.calls k1 _ _ y108 t111 _ ?side1 ?side2 A6.out).mono ?_); (case side1 => repeat (first | exact (Kd.N_reads' HO110.out).2.2 | (with_reducible refine Kd.C_alloc ?_ _) | (with_reducible refine Kd.C_drewN ?_ _) | (with_reducible refine Kd.C_drew ?_))); (case side2 => exact (Kd.N_reads' HO110.out).2.1); rintro e w13 ⟨rfl, hb⟩; refine ⟨_, rfl, ?_⟩; have n0_ := Aside0.mk (Kd.N_below (by (with_reducible repeat (first | apply Kd.N_alloc | apply Kd.N_drewN | apply Kd.N_drew)); exact HO110.out) hb); have n1_ := Aside0.mk (below_step (by repeat (first | (with_reducible first | exact HB.out | apply below_alloc | apply pw_below_drewN | apply below_drew1) | exact HB.out)) hb); clear HO110; clear HB; have HO110 := n0_; have HB := n1_; clear n0_ n1_; (try clear hb); (try clear hb2); (try clear hk); (try clear hi)))
            go_roundg k1
            case measure => have := HK1.out; omega
            case rel => exact ⟨(ji7), (wrap64 (x8_1 + 1)), (by first | rfl | (simp; done) | (simp only [← hji7] <;> (first | rfl | simp)) | (simp [*]; done)), (by first | rfl | (simp; done) | (simp [*]; done)), H', ⟨by have := HK1.out; omega⟩, ⟨by repeat (first | (with_reducible first | exact HB.out | apply below_alloc | apply pw_below_drewN | apply below_drew1) | exact HB.out)⟩⟩
          · rw [if_neg c4] at H
            exact absurd H (by simp)
        · rw [if_neg c3] at H
          exact absurd H (by simp)
      · rw [if_neg c2] at H
        have c2b0 : decide (x8_1 < (l0.length : Int)) = false := decide_eq_false c2
        clear c2
        obtain rfl := Option.some.inj H
        go_wp2
        go_ret
        exact ⟨by first | rfl | (simp [errW_none, errW_some] <;> rfl) | (simp [*, errW_none, errW_some] <;> rfl), by repeat (first | (with_reducible first | exact HB.out | apply below_alloc | apply pw_below_drewN | apply below_drew1) | exact HB.out)⟩
end Go.Proofs.Ytfiamddinkokbaa.F
end

section
set_option linter.unusedVariables false
set_option linter.unusedSimpArgs false
namespace Go.Proofs.Ytfiamddinkokbaa.F
open Go.RowKit Go.Shelf Go.Proofs.YtfiamddinkokbaaW.PrintWords
set_option linter.unusedVariables false
set_option linter.unusedSimpArgs false
def texts106 (x : S106) : List ByteArray := [x.f2, x.f3, x.f4, x.f5]
def agg106 (x : S106) : Value := .agg #[.string x.f0.f0, .string x.f0.f1, .string x.f0.f2, .bool x.f1, .string x.f2, .string x.f3, .string x.f4, .string x.f5, .bool x.f6]
def widest (k : Nat) (x : S106) : Int := (doc_run.f k (texts106 x)).getD 0
theorem fits_lit (W : World) (n : Nat) (t : TypeId) (a b c d : ByteArray) (h : W.heap[n]? = some (.cells #[.string a, .string b, .string c, .string d] t (0, 0))) : Kd.C Kd.string W (some ⟨n, 0, none⟩) 4 [a, b, c, d] := by
  refine ⟨rfl, by omega, fun _ => ⟨_, rfl, ?_⟩⟩
  intro j p hj
  refine ⟨[.string p], rfl, rfl, ?_⟩
  intro i u hi
  have hi0 : i = 0 := by
    match i, hi with
    | 0, _ => rfl
  subst hi0
  obtain rfl : Value.string p = u := by simpa using hi
  rw [add_plain]
  have hz : (Kd.string).sz = 1 := rfl
  rw [hz, Nat.mul_one, Nat.add_zero]
  have : ∀ i v, (#[Value.string a, .string b, .string c, .string d] : Array Value)[i]? = some v → W.cell? ⟨n, i, none⟩ = some v := by
    intro i v hv
    exact (blk_cell h i).trans hv
  apply this
  match j, hj with
  | 0, hj => simpa using hj
  | 1, hj => simpa using hj
  | 2, hj => simpa using hj
  | 3, hj => simpa using hj
theorem fits_new (W : World) (o : Obj) : (W.alloc o).drew.heap[W.heap.size]? = some o := World.alloc_heap_new W o
theorem fits_run (k n : Nat) (t : TypeId) (a b c d : ByteArray) (r : Int) (W : World) (h : W.heap[n]? = some (.cells #[.string a, .string b, .string c, .string d] t (0, 0))) (hr : doc_run.f k [a, b, c, d] = some r) :
    Calls Try.prog 71 #[.slice (some ⟨n, 0, none⟩) 4 4] W fun e w' => e = .returned (.int .i64 r) ∧ Below W.heap.size W w' :=
  doc_run.calls k (some ⟨n, 0, none⟩) 4 [a, b, c, d] r W (fits_lit W n t a b c d h) (Nat.le_refl 4) hr
theorem fits_keep {w0 W w' : World} {a0 a1 a2 a3 a4 : Addr} {v0 v1 v2 v3 v4 : Value} (hb : Below W.heap.size W w')
    (h : W.cell? a0 = some v0 ∧ W.cell? a1 = some v1 ∧ W.cell? a2 = some v2 ∧ W.cell? a3 = some v3 ∧ W.cell? a4 = some v4 ∧ Below w0.heap.size w0 W) :
    w'.cell? a0 = some v0 ∧ w'.cell? a1 = some v1 ∧ w'.cell? a2 = some v2 ∧ w'.cell? a3 = some v3 ∧ w'.cell? a4 = some v4 ∧ Below w0.heap.size w0 w' := by
  obtain ⟨h0, h1, h2, h3, h4, h5⟩ := h
  exact ⟨(hb.cell (World.block_lt_of_cell? W _ h0)).trans h0, (hb.cell (World.block_lt_of_cell? W _ h1)).trans h1, (hb.cell (World.block_lt_of_cell? W _ h2)).trans h2, (hb.cell (World.block_lt_of_cell? W _ h3)).trans h3,
    (hb.cell (World.block_lt_of_cell? W _ h4)).trans h4, below_step h5 hb⟩
set_option maxHeartbeats 4000000 in
set_option maxRecDepth 100000 in
theorem fits_pred (k B : Nat) (lim : Int) (w W : World) (x : S106) (r : Int) (hB : B < w.heap.size) (hc : w.cell? ⟨B, 0, none⟩ = some (.int .i64 lim)) (hb : Below w.heap.size w W)
    (hr : doc_run.f k (texts106 x) = some r) :
    Calls Try.prog 117 (#[agg106 x] ++ #[.pointer (some ⟨B, 0, none⟩)]) W fun e w' => e = .returned (.bool (decide (lim ≤ r))) ∧ Below w.heap.size w w' := by
  have hW : W.cell? ⟨B, 0, none⟩ = some (.int .i64 lim) := (hb.cell (p := ⟨B, 0, none⟩) hB).trans hc
  have hBW : B < W.heap.size := World.block_lt_of_cell? W _ hW
  show Calls Try.prog 117 #[agg106 x, .pointer (some ⟨B, 0, none⟩)] W _
  unfold agg106
  obtain ⟨H0, hH⟩ : ∃ H0, W.heap.size = H0 := ⟨_, rfl⟩
  clear hc hB
  obtain ⟨⟨l1, l2, l3⟩, b1, s2, s3, s4, s5, b6⟩ := x
  have HX : Aside0 (doc_run.f k [s2, s3, s4, s5] = some r) := ⟨hr⟩
  clear hr
  dsimp only
  go_enter Try.func117, Try.ntmps117
  go_wp2_with fail
  try rw [hH]
  have hbox : (W.alloc (Obj.cells #[Value.string l1, Value.string l2, Value.string l3, Value.bool b1, Value.string s2, Value.string s3, Value.string s4, Value.string s5, Value.bool b6] 106)).heap[H0]? = some (Obj.cells #[Value.string l1, Value.string l2, Value.string l3, Value.bool b1, Value.string s2, Value.string s3, Value.string s4, Value.string s5, Value.bool b6] 106) := by
    rw [← hH]; exact World.alloc_heap_new _ _
  have hbel : Below w.heap.size w (W.alloc (Obj.cells #[Value.string l1, Value.string l2, Value.string l3, Value.bool b1, Value.string s2, Value.string s3, Value.string s4, Value.string s5, Value.bool b6] 106)) := below_alloc hb _
  have hlim : (W.alloc (Obj.cells #[Value.string l1, Value.string l2, Value.string l3, Value.bool b1, Value.string s2, Value.string s3, Value.string s4, Value.string s5, Value.bool b6] 106)).cell? ⟨B, 0, none⟩ = some (.int .i64 lim) :=
    ((below_alloc (Below.refl _ _) _).cell hBW).trans hW
  clear hb hW hBW hH
  generalize W.alloc (Obj.cells #[Value.string l1, Value.string l2, Value.string l3, Value.bool b1, Value.string s2, Value.string s3, Value.string s4, Value.string s5, Value.bool b6] 106) = W1 at hbox hbel hlim ⊢
  have e4 : W1.cell? ⟨H0, 4, none⟩ = some (.string s2) := (blk_cell hbox 4).trans rfl
  have e5 : W1.cell? ⟨H0, 5, none⟩ = some (.string s3) := (blk_cell hbox 5).trans rfl
  have e6 : W1.cell? ⟨H0, 6, none⟩ = some (.string s4) := (blk_cell hbox 6).trans rfl
  have e7 : W1.cell? ⟨H0, 7, none⟩ = some (.string s5) := (blk_cell hbox 7).trans rfl
  go_region_held3 (fun w' => w'.cell? ⟨B, 0, none⟩ = some (.int .i64 lim) ∧ w'.cell? ⟨H0, 4, none⟩ = some (.string s2) ∧ w'.cell? ⟨H0, 5, none⟩ = some (.string s3) ∧ w'.cell? ⟨H0, 6, none⟩ = some (.string s4) ∧ w'.cell? ⟨H0, 7, none⟩ = some (.string s5) ∧ Below w.heap.size w w')
    ((first | exact fits_keep (by first | assumption | exact below_drew (below_alloc (Below.refl _ _) _) | exact below_alloc (Below.refl _ _) _ | exact below_drew (Below.refl _ _)) (by first | assumption | (refine ⟨?_, ?_, ?_, ?_, ?_, ?_⟩ <;> assumption))))
    (first | (go_at_call 71; refine (fits_run k _ 9 s2 s3 s4 s5 r _ (fits_new _ _) HX.out).mono ?_; rintro e w' ⟨rfl, hb'⟩))
  all_goals go_wp2
  all_goals go_ret
  all_goals (refine ⟨rfl, ?_⟩; first | assumption | (go_split_ands; assumption))
instance inhab106 : Inhabited S106 := ⟨z106⟩
theorem getD106 (l : List S106) (j : Nat) : l[j]! = l.getD j z106 := by rw [List.getElem!_eq_getElem?_getD, List.getD_eq_getElem?_getD]; rfl
def wide (k : Nat) (lim : Int) (x : S106) : Bool := decide (lim ≤ widest k x)
def fitsOk (k : Nat) (l : List S106) : Bool := l.all fun x => (doc_run.f k (texts106 x)).isSome
set_option maxHeartbeats 4000000 in
set_option maxRecDepth 100000 in
theorem fits_index (k B : Nat) (lim : Int) (A : Option Addr) (c : Nat) (l : List S106) (w : World) (hB : B < w.heap.size) (hc : w.cell? ⟨B, 0, none⟩ = some (.int .i64 lim))
    (hr : Kd.C k106 w A l.length l) (hok : fitsOk k l = true) :
    Calls Try.prog 143 #[.slice A l.length c, .func (.func 117) #[] #[.pointer (some ⟨B, 0, none⟩)]] w fun e w' =>
      e = .returned (.int .i64 (Lib.idxBy (fun _ y => wide k lim y) l z106)) ∧ Below w.heap.size w w' := by
  have eg : ∀ args w, (callFunc 117 args).run Try.prog w = .ok (.enter 117 args) w := enters_of Try.func117 (by kernel_rfl) rfl
  have hrun : ∀ x ∈ l, doc_run.f k (texts106 x) = some (widest k x) := by
    intro x hx
    have h1 := List.all_eq_true.1 hok x hx
    obtain ⟨r, hr⟩ := Option.isSome_iff_exists.1 h1
    unfold widest
    rw [hr]; rfl
  have hlen : l.length ≤ 9223372036854775807 := hr.2.1
  have hpred : ∀ (W : World) (x : S106), x ∈ l → Below w.heap.size w W → Calls Try.prog 117 (#[agg106 x] ++ #[.pointer (some ⟨B, 0, none⟩)]) W fun e w' => e = .returned (.bool (wide k lim x)) ∧ Below w.heap.size w w' :=
    fun W x hx hb => fits_pred k B lim w W x (widest k x) hB hc hb (hrun x hx)
  have HR0 := Aside0.mk hr
  clear hr hc hB hok hrun
  go_enter Try.func143, Try.ntmps143
  go_wp2
  go_loopg [5, 8] l.length (fun gg _ s8 wr => ∃ kk : Nat, kk ≤ l.length ∧ l.length - kk ≤ gg ∧ s8 = .int .i64 kk ∧ Aside (Below w.heap.size w wr) ∧ Aside (∀ j, j < kk → wide k lim (l.getD j z106) = false))
  case atStart => exact ⟨0, Nat.zero_le _, by omega, rfl, Below.refl _ w, fun j hj => absurd hj (Nat.not_lt_zero _)⟩
  case round =>
    obtain ⟨kk, hkk, hg, rfl, BW, AA⟩ := hrel
    by_cases hlt : kk < l.length
    · have hltz : (kk : Int) < (l.length : Int) := by omega
      obtain ⟨ad, rfl, hx0, hx1, hx2, hx3, hx4, hx5, hx6, hx7, hx8⟩ := at_T106 (Kd.C_below HR0.out BW.out) (kk : Int) (by omega) hltz
      have hcall := hpred wr (l.getD kk z106) (by rw [List.getD_eq_getElem?_getD, List.getElem?_eq_getElem hlt]; exact List.getElem_mem hlt) BW.out
      have hrd : rd_T106 l (kk : Int) = l.getD kk z106 := rfl
      rw [Int.toNat_natCast] at hx0 hx1 hx2 hx3 hx4 hx5 hx6 hx7 hx8
      rw [hrd] at hx0 hx1 hx2 hx3 hx4 hx5 hx6 hx7 hx8
      clear hpred hrd
      generalize hy : l.getD kk z106 = y at hx0 hx1 hx2 hx3 hx4 hx5 hx6 hx7 hx8 hcall
      have BB : Aside (l.getD kk z106 = y) := hy
      clear hy
      unfold agg106 at hcall
      obtain ⟨⟨l1, l2, l3⟩, b1, s2, s3, s4, s5, b6⟩ := y
      have p0 : (0 : Int) ≤ (kk : Int) := by omega
      cases hq : wide k lim ⟨⟨l1, l2, l3⟩, b1, s2, s3, s4, s5, b6⟩ with
      | true =>
        rw [hq] at hcall
        go_wp2_with (go_at_fn 117; refine hcall.mono ?_; rintro e w' ⟨rfl, hb'⟩)
        go_ret
        refine ⟨?_, hb'⟩
        have hit := Lib.idxBy_hit (fun _ y => wide k lim y) l l.length kk z106 hlt (Nat.le_refl _) (by show wide k lim l[kk]! = true; rw [getD106, BB.out]; exact hq) (fun j hj => by show wide k lim l[j]! = false; rw [getD106]; exact AA.out j hj)
        rw [List.take_length] at hit
        rw [hit]; rfl
      | false =>
        rw [hq] at hcall
        go_wp2_with (go_at_fn 117; refine hcall.mono ?_; rintro e w' ⟨rfl, hb'⟩)
        go_roundg (l.length - (kk + 1))
        case measure => omega
        case rel =>
          refine ⟨kk + 1, by omega, by omega, by go_num, hb', (show Aside _ from fun j hj => ?_)⟩
          by_cases e : j = kk
          · subst e
            rw [BB.out]; exact hq
          · exact AA.out j (by omega)
    · have hltz : ¬ (kk : Int) < (l.length : Int) := by omega
      have : kk = l.length := by omega
      subst this
      go_wp2
      go_ret
      refine ⟨?_, BW.out⟩
      have miss := Lib.idxBy_miss (fun _ y => wide k lim y) l l.length z106 (fun j hj => by show wide k lim l[j]! = false; rw [getD106]; exact AA.out j hj)
      rw [List.take_length] at miss
      rw [miss]; rfl
theorem fits_contains (k B : Nat) (lim : Int) (A : Option Addr) (c : Nat) (l : List S106) (w : World) (hB : B < w.heap.size) (hc : w.cell? ⟨B, 0, none⟩ = some (.int .i64 lim))
    (hr : Kd.C k106 w A l.length l) (hok : fitsOk k l = true) :
    Calls Try.prog 116 #[.slice A l.length c, .func (.func 117) #[] #[.pointer (some ⟨B, 0, none⟩)]] w fun e w' =>
      e = .returned (.bool (l.any (wide k lim))) ∧ Below w.heap.size w w' := by
  have hcon := fits_index k B lim A c l w hB hc hr hok
  rw [show l.any (wide k lim) = decide (0 ≤ Lib.idxBy (fun _ y => wide k lim y) l z106) from (Lib.idxBy_nonneg_iff (fun _ y => wide k lim y) l z106).symm]
  clear hr hc hok
  generalize Lib.idxBy (fun _ y => wide k lim y) l z106 = r at hcon ⊢
  go_enter Try.func116, Try.ntmps116
  go_wp2_with (go_at_call 143; refine hcon.mono ?_; rintro e w' ⟨rfl, hb'⟩)
  go_ret
  exact ⟨rfl, hb'⟩
def fitsF (k : Nat) (l : List S106) (a1 : Int) : Option Bool := if 1 ≤ a1 then (if fitsOk k l = true then some (!l.any (wide k a1)) else none) else some false
theorem fits_calls (k : Nat) (A : Option Addr) (c : Nat) (l : List S106) (a1 : Int) (r : Bool) (w : World) (hr : Kd.C k106 w A l.length l) (hc : l.length ≤ c) (h : fitsF k l a1 = some r) :
    Calls Try.prog 73 #[.slice A l.length c, .int .i64 a1] w fun e w' => e = .returned (.bool r) ∧ Below w.heap.size w w' := by
  unfold fitsF at h
  by_cases h1 : 1 ≤ a1
  · rw [if_pos h1] at h
    by_cases h2 : fitsOk k l = true
    · rw [if_pos h2] at h
      obtain rfl := Option.some.inj h
      have hcon := fits_contains k w.heap.size a1 A c l (w.alloc (.cells #[.int .i64 a1] 3)) (by simp) (by simp) (Kd.C_alloc hr _) h2
      clear hr h2
      generalize l.any (wide k a1) = q at hcon ⊢
      have h1b : decide (1 ≤ a1) = true := decide_eq_true h1
      have h1e := eq_true h1
      go_enter Try.func73, Try.ntmps73
      go_wp2_with (go_at_call 116; refine hcon.mono ?_; rintro e w' ⟨rfl, hb'⟩)
      go_ret
      exact ⟨rfl, below_step (below_alloc (Below.refl _ _) _) hb'⟩
    · rw [if_neg h2] at h; cases h
  · rw [if_neg h1] at h
    obtain rfl := Option.some.inj h
    have h1b : decide (1 ≤ a1) = false := decide_eq_false h1
    have h1e := eq_false h1
    go_enter Try.func73, Try.ntmps73
    go_wp2
    go_ret
    exact ⟨rfl, below_alloc (Below.refl _ _) _⟩
theorem fits_mono : ∀ l a1 k, LeO (fitsF k l a1) (fitsF (k + 1) l a1) := by
  intro l a1 k r h
  unfold fitsF at h ⊢
  by_cases h1 : 1 ≤ a1
  · rw [if_pos h1] at h ⊢
    by_cases h2 : fitsOk k l = true
    · rw [if_pos h2] at h
      have hx : ∀ x ∈ l, doc_run.f (k + 1) (texts106 x) = doc_run.f k (texts106 x) := by
        intro x hx
        obtain ⟨v, hv⟩ := Option.isSome_iff_exists.1 (List.all_eq_true.1 h2 x hx)
        rw [hv, doc_run.mono _ _ _ hv]
      have h3 : fitsOk (k + 1) l = true := by
        refine List.all_eq_true.2 fun x hm => ?_
        rw [hx x hm]; exact List.all_eq_true.1 h2 x hm
      have h4 : l.any (wide (k + 1) a1) = l.any (wide k a1) := by
        rw [Bool.eq_iff_iff, List.any_eq_true, List.any_eq_true]
        constructor <;> (rintro ⟨x, hm, hw⟩; refine ⟨x, hm, ?_⟩; unfold wide widest at hw ⊢; rw [hx x hm] at *; exact hw)
      rw [if_pos h3, h4]; exact h
    · rw [if_neg h2] at h; cases h
  · rw [if_neg h1] at h ⊢; exact h
end Go.Proofs.Ytfiamddinkokbaa.F
end

section
set_option linter.unusedVariables false
set_option linter.unusedSimpArgs false
namespace Go.Proofs.Ytfiamddinkokbaa.F
open Go.RowKit Go.Proofs.YtfiamddinkokbaaW.PrintWords Go.Proofs.YtfiamddinkokbaaW.PrintLast Go.Proofs.YtfiamddinkokbaaW.PrintMore
attribute [local go_sem] max2_int min2_int max_two min_two max_three min_three max_four min_four
set_option linter.unusedVariables false
set_option linter.unusedSimpArgs false
def doc_Doc_Fits.f (k : Nat) (l0 : List S106) (a1 : Int) : Option Bool := fitsF k l0 a1
theorem doc_Doc_Fits.mono : ∀ l0 a1 k, LeO (doc_Doc_Fits.f k l0 a1) (doc_Doc_Fits.f (k + 1) l0 a1) := fits_mono
theorem doc_Doc_Fits.calls (k : Nat) (A0 : Option Addr) (c0 : Nat) (l0 : List (S106)) (a1 : Int) (r : Bool) (w : World) (hr0 : Kd.C k106 w A0 l0.length l0) (hc0 : l0.length ≤ c0) (h : doc_Doc_Fits.f k l0 a1 = some r) :
    Calls Try.prog 73 #[.slice A0 l0.length c0, .int .i64 a1] w fun e w' => e = .returned (.bool r) ∧ Below w.heap.size w w' := by
  exact fits_calls k A0 c0 l0 a1 r w hr0 hc0 h
end Go.Proofs.Ytfiamddinkokbaa.F
end

section
set_option linter.unusedVariables false
set_option linter.unusedSimpArgs false
namespace Go.Proofs.Ytfiamddinkokbaa.F
open Go.RowKit Go.Shelf Go.Proofs.YtfiamddinkokbaaW.PrintWords
set_option linter.unusedVariables false
set_option linter.unusedSimpArgs false
def sufQ (s : ByteArray) : Bool := (strings_HasSuffix.f s ⟨#[10]⟩).getD false
def partL (wd : Int) (x : S106) : List UInt8 := x.f2.data.toList ++ (if x.f1 = true then hunkL wd false x (sufQ x.f3) (sufQ x.f4) (sufQ x.f5) else [])
def printL (wd : Int) (l : List S106) : List UInt8 := l.flatMap (partL wd)
def okPart (x : S106) : Bool := decide (x.f0.f0.size ≤ 4000000000) && (decide (x.f0.f1.size ≤ 4000000000) && (decide (x.f0.f2.size ≤ 4000000000) && (decide (x.f2.size ≤ 4000000000) && (decide (x.f3.size ≤ 4000000000) && (decide (x.f4.size ≤ 4000000000) && (decide (x.f5.size ≤ 4000000000) &&
  ((strings_HasSuffix.f x.f3 ⟨#[10]⟩).isSome && ((strings_HasSuffix.f x.f4 ⟨#[10]⟩).isSome && (strings_HasSuffix.f x.f5 ⟨#[10]⟩).isSome))))))))
def printF (k : Nat) (l : List S106) (wd : Int) : Option (ByteArray × Int) :=
  (mark_wide.f wd).bind fun t => if t = true then ((doc_Doc_Right.f k l).bind fun r => if r = true then ((doc_Doc_Fits.f k l wd).bind fun g =>
    if g = true then (if l.all okPart = true ∧ l.length ≤ 2000 ∧ 0 ≤ wd ∧ wd ≤ 1073741824 then some (toB (printL wd l), 0) else none) else some (⟨#[]⟩, 4)) else some (⟨#[]⟩, 11)) else some (⟨#[]⟩, 4)
theorem sufQ_some {s : ByteArray} (h : (strings_HasSuffix.f s ⟨#[10]⟩).isSome = true) : strings_HasSuffix.f s ⟨#[10]⟩ = some (sufQ s) := by
  unfold sufQ
  obtain ⟨q, hq⟩ := Option.isSome_iff_exists.1 h
  rw [hq]; rfl
theorem pr_new (B : Nat) (wd : Int) (W : World) (hB : B ≤ W.heap.size) : Pr B W.heap.size wd false [] (W.alloc (.cells #[.pointer none, .slice none 0 0, .int .i64 wd, .bool false] 129)) :=
  ⟨_, _, ⟨hB, World.alloc_heap_new _ _, rfl, rfl, .inl rfl, World.ownsRow_nil _ _ _ _, by simp [Value.ownBlock]⟩⟩
set_option maxHeartbeats 4000000 in
set_option maxRecDepth 100000 in
theorem print_wide (A : Option Addr) (c n : Nat) (wd : Int) (w : World) (e0 : mark_wide.f wd = some false) :
    Calls Try.prog 47 #[.slice A n c, .int .i64 wd] w fun e w' => e = .returned (.tuple #[.string ⟨#[]⟩, .int .i64 4]) ∧ Below w.heap.size w w' := by
  have H0 := fun W => mark_wide.calls wd false W e0
  have HB := Aside0.mk (Below.refl w.heap.size w)
  go_enter Try.func47, Try.ntmps47
  go_wp2_with (first | (go_at_call 86; refine (H0 _).mono ?_; rintro e w1 ⟨rfl, nd, rfl⟩))
  go_ret2
  exact ⟨rfl, pw_below_drewN HB.out nd⟩
set_option maxHeartbeats 4000000 in
set_option maxRecDepth 100000 in
theorem print_right (k : Nat) (A : Option Addr) (c : Nat) (l : List S106) (wd : Int) (w : World) (hr : Kd.C k106 w A l.length l) (hc : l.length ≤ c) (e0 : mark_wide.f wd = some true) (e1 : doc_Doc_Right.f k l = some false) :
    Calls Try.prog 47 #[.slice A l.length c, .int .i64 wd] w fun e w' => e = .returned (.tuple #[.string ⟨#[]⟩, .int .i64 11]) ∧ Below w.heap.size w w' := by
  have H0 := fun W => mark_wide.calls wd true W e0
  have H1 := fun W (hb : Below w.heap.size w W) => doc_Doc_Right.calls k A c l false W (Kd.C_below hr hb) hc e1
  have HB := Aside0.mk (Below.refl w.heap.size w)
  clear hr e1 e0
  go_enter Try.func47, Try.ntmps47
  go_wp2_with (first
    | (go_at_call 86; refine (H0 _).mono ?_; rintro e w1 ⟨rfl, nd, rfl⟩; replace HB := Aside0.mk (pw_below_drewN HB.out nd))
    | (go_at_call 72; refine (H1 _ HB.out).mono ?_; rintro e w2 ⟨rfl, hb⟩; replace HB := Aside0.mk (below_step HB.out hb); clear hb))
  go_ret2
  exact ⟨rfl, HB.out⟩
set_option maxHeartbeats 4000000 in
set_option maxRecDepth 100000 in
theorem print_fits (k : Nat) (A : Option Addr) (c : Nat) (l : List S106) (wd : Int) (w : World) (hr : Kd.C k106 w A l.length l) (hc : l.length ≤ c) (e0 : mark_wide.f wd = some true) (e1 : doc_Doc_Right.f k l = some true) (e2 : doc_Doc_Fits.f k l wd = some false) :
    Calls Try.prog 47 #[.slice A l.length c, .int .i64 wd] w fun e w' => e = .returned (.tuple #[.string ⟨#[]⟩, .int .i64 4]) ∧ Below w.heap.size w w' := by
  have H0 := fun W => mark_wide.calls wd true W e0
  have H1 := fun W (hb : Below w.heap.size w W) => doc_Doc_Right.calls k A c l true W (Kd.C_below hr hb) hc e1
  have H2 := fun W (hb : Below w.heap.size w W) => doc_Doc_Fits.calls k A c l wd false W (Kd.C_below hr hb) hc e2
  have HB := Aside0.mk (Below.refl w.heap.size w)
  clear hr e1 e0 e2
  go_enter Try.func47, Try.ntmps47
  go_wp2_with (first
    | (go_at_call 86; refine (H0 _).mono ?_; rintro e w1 ⟨rfl, nd, rfl⟩; replace HB := Aside0.mk (pw_below_drewN HB.out nd))
    | (go_at_call 72; refine (H1 _ HB.out).mono ?_; rintro e w2 ⟨rfl, hb⟩; replace HB := Aside0.mk (below_step HB.out hb); clear hb)
    | (go_at_call 73; refine (H2 _ HB.out).mono ?_; rintro e w2 ⟨rfl, hb⟩; replace HB := Aside0.mk (below_step HB.out hb); clear hb))
  go_ret2
  exact ⟨rfl, HB.out⟩
theorem pr_drew {B b : Nat} {wd : Int} {lk : Bool} {bs : List UInt8} {w : World} (h : Pr B b wd lk bs w) : Pr B b wd lk bs w.drew := h.below (below_drew1 (Below.refl _ _))
theorem partL_length (wd : Int) (w1 : wd ≤ 1073741824) (x : S106) (h : okPart x = true) : (partL wd x).length ≤ 45000000000 := by
  unfold okPart at h
  simp only [Bool.and_eq_true, decide_eq_true_eq] at h
  obtain ⟨z0, z1, z2, ztx, z3, z4, z5, _⟩ := h
  have hz : (⟨#[]⟩ : ByteArray).size = 0 := rfl
  unfold partL
  rw [List.length_append, size_dataL]
  split
  · unfold hunkL
    simp only [List.length_append]
    have a0 := lineL_length 60 false x.f0.f0 wd w1
    have a1 := sideL_length x.f3 (sufQ x.f3)
    have a3 := lineL_length 61 (if x.f6 = true then lacksB x.f4 (sufQ x.f4) else lacksB x.f3 (sufQ x.f3)) ⟨#[]⟩ wd w1
    have a4 := sideL_length x.f5 (sufQ x.f5)
    have a5 := lineL_length 62 (lacksB x.f5 (sufQ x.f5)) x.f0.f2 wd w1
    have a6 : (if x.f6 = true then lineL 124 (lacksB x.f3 (sufQ x.f3)) x.f0.f1 wd ++ sideL x.f4 (sufQ x.f4) else []).length ≤ 10000000000 := by
      split
      · rw [List.length_append]
        have b0 := lineL_length 124 (lacksB x.f3 (sufQ x.f3)) x.f0.f1 wd w1
        have b1 := sideL_length x.f4 (sufQ x.f4)
        omega
      · simp
    omega
  · simp; omega
theorem printL_length (wd : Int) (w1 : wd ≤ 1073741824) : ∀ l : List S106, (∀ x ∈ l, okPart x = true) → (printL wd l).length ≤ l.length * 45000000000
  | [], _ => by simp [printL]
  | x :: l, h => by
    have h1 := partL_length wd w1 x (h x (by simp))
    have h2 := printL_length wd w1 l (fun y hy => h y (by simp [hy]))
    have e : printL wd (x :: l) = partL wd x ++ printL wd l := by simp [printL]
    rw [e, List.length_append, List.length_cons]
    omega
set_option maxHeartbeats 8000000 in
set_option maxRecDepth 100000 in
theorem print_main (k : Nat) (A : Option Addr) (c : Nat) (l : List S106) (wd : Int) (w : World) (hr : Kd.C k106 w A l.length l) (hc : l.length ≤ c) (e0 : mark_wide.f wd = some true) (e1 : doc_Doc_Right.f k l = some true) (e2 : doc_Doc_Fits.f k l wd = some true)
    (hok : l.all okPart = true) (hn : l.length ≤ 2000) (w0 : 0 ≤ wd) (w1 : wd ≤ 1073741824) :
    Calls Try.prog 47 #[.slice A l.length c, .int .i64 wd] w fun e w' => e = .returned (.tuple #[.string (toB (printL wd l)), .int .i64 0]) ∧ Below w.heap.size w w' := by
  have H0 := fun W => mark_wide.calls wd true W e0
  have H1 := fun W (hb : Below w.heap.size w W) => doc_Doc_Right.calls k A c l true W (Kd.C_below hr hb) hc e1
  have H2 := fun W (hb : Below w.heap.size w W) => doc_Doc_Fits.calls k A c l wd true W (Kd.C_below hr hb) hc e2
  have HR := Aside0.mk hr
  have HB := Aside0.mk (Below.refl w.heap.size w)
  clear hr e1 e0 e2
  go_enter Try.func47, Try.ntmps47
  go_wp2_with (first
    | (go_at_call 86; refine (H0 _).mono ?_; rintro e w1 ⟨rfl, nd, rfl⟩; replace HB := Aside0.mk (pw_below_drewN HB.out nd))
    | (go_at_call 72; refine (H1 _ HB.out).mono ?_; rintro e w2 ⟨rfl, hb⟩; replace HB := Aside0.mk (below_step HB.out hb); clear hb)
    | (go_at_call 73; refine (H2 _ HB.out).mono ?_; rintro e w2 ⟨rfl, hb⟩; replace HB := Aside0.mk (below_step HB.out hb); clear hb))
  have HP := Aside0.mk (pr_new w.heap.size wd w2 HB.out.size)
  replace HB := Aside0.mk (below_step HB.out (below_alloc (Below.refl w2.heap.size w2) (.cells #[.pointer none, .slice none 0 0, .int .i64 wd, .bool false] 129)))
  clear H0 H1 H2
  generalize w2.alloc (.cells #[.pointer none, .slice none 0 0, .int .i64 wd, .bool false] 129) = W at HP HB ⊢
  generalize w2.heap.size = b at HP ⊢
  go_loopg [27] l.length (fun gg s27 wr => ∃ kk : Nat, kk ≤ l.length ∧ l.length - kk ≤ gg ∧ s27 = .int .i64 kk ∧ Aside0 (Below w.heap.size w wr) ∧ Aside0 (Pr w.heap.size b wd false (printL wd (l.take kk)) wr))
  case atStart => exact ⟨0, Nat.zero_le _, by omega, rfl, HB, HP⟩
  case round =>
    clear HB HP
    obtain ⟨kk, hkk, hg, rfl, HB, HP⟩ := hrel
    by_cases hlt : kk < l.length
    · have hltz : (kk : Int) < (l.length : Int) := by omega
      have p0 : (0 : Int) ≤ (kk : Int) := by omega
      obtain ⟨ad, rfl, hx0, hx1, hx2, hx3, hx4, hx5, hx6, hx7, hx8⟩ := at_T106 (Kd.C_below HR.out HB.out) (kk : Int) p0 hltz
      have hrd : rd_T106 l (kk : Int) = l.getD kk z106 := rfl
      rw [Int.toNat_natCast] at hx0 hx1 hx2 hx3 hx4 hx5 hx6 hx7 hx8
      rw [hrd] at hx0 hx1 hx2 hx3 hx4 hx5 hx6 hx7 hx8
      generalize hy : l.getD kk z106 = y at hx0 hx1 hx2 hx3 hx4 hx5 hx6 hx7 hx8
      obtain ⟨⟨l0, l1, l2⟩, hk, tx, s3, s4, s5, hb⟩ := y
      have hmem : (⟨⟨l0, l1, l2⟩, hk, tx, s3, s4, s5, hb⟩ : S106) ∈ l := by
        rw [← hy, List.getD_eq_getElem?_getD, List.getElem?_eq_getElem hlt]; exact List.getElem_mem hlt
      have ho := List.all_eq_true.1 hok _ hmem
      unfold okPart at ho
      simp only [Bool.and_eq_true, decide_eq_true_eq] at ho
      obtain ⟨z0, z1, z2, ztx, z3, z4, z5, q3, q4, q5⟩ := ho
      have hlen := printL_length wd w1 (l.take kk) (fun x hx => List.all_eq_true.1 hok x (List.mem_of_mem_take hx))
      have hlen2 : (l.take kk).length ≤ 2000 := by rw [List.length_take]; omega
      have hlen3 : (printL wd (l.take kk)).length ≤ 2000 * 45000000000 := Nat.le_trans hlen (Nat.mul_le_mul_right _ hlen2)
      have hstep : printL wd (l.take (kk + 1)) = printL wd (l.take kk) ++ partL wd ⟨⟨l0, l1, l2⟩, hk, tx, s3, s4, s5, hb⟩ := by
        rw [List.take_add_one, List.getElem?_eq_getElem hlt]
        have : l[kk] = ⟨⟨l0, l1, l2⟩, hk, tx, s3, s4, s5, hb⟩ := by rw [← hy, List.getD_eq_getElem?_getD, List.getElem?_eq_getElem hlt]; rfl
        simp [printL, this]
      have HS := Aside0.mk hstep
      have HQ3 := Aside0.mk (sufQ_some q3)
      have HQ4 := Aside0.mk (sufQ_some q4)
      have HQ5 := Aside0.mk (sufQ_some q5)
      generalize printL wd (l.take kk) = cur at HP hlen3 HS
      clear hstep q3 q4 q5 hlen hlen2 hmem hy hrd
      go_wp2_with fail
      have hblk := World.alloc_heap_new wr (.cells #[.string l0, .string l1, .string l2, .bool hk, .string tx, .string s3, .string s4, .string s5, .bool hb] 106)
      have hne : wr.heap.size ≠ b := by have := HP.out.lt; omega
      replace HP := Aside0.mk (HP.out.below (below_alloc (Below.refl wr.heap.size wr) (.cells #[.string l0, .string l1, .string l2, .bool hk, .string tx, .string s3, .string s4, .string s5, .bool hb] 106)))
      replace HB := Aside0.mk (below_step HB.out (below_alloc (Below.refl wr.heap.size wr) (.cells #[.string l0, .string l1, .string l2, .bool hk, .string tx, .string s3, .string s4, .string s5, .bool hb] 106)))
      clear hx0 hx1 hx2 hx3 hx4 hx5 hx6 hx7 hx8
      generalize wr.alloc (.cells #[.string l0, .string l1, .string l2, .bool hk, .string tx, .string s3, .string s4, .string s5, .bool hb] 106) = W2 at *
      generalize wr.heap.size = nb at *
      have k4 := (blk_cell hblk 4).trans (rfl : _ = some (Value.string tx))
      go_region_with ((first
        | (go_at_call 87; refine (pr_write (w := W2.drew) tx (pr_drew HP.out) (by omega) HB.out.size).mono ?_; rintro e W3 ⟨rfl, hp_, hb_, hk_⟩)))
      have hblk3 := hk_.cell (show W2.drew.heap[nb]? = _ from hblk) (by decide) hne
      have j0 := (blk_cell hblk3 0).trans (rfl : _ = some (Value.string l0))
      have j1 := (blk_cell hblk3 1).trans (rfl : _ = some (Value.string l1))
      have j2 := (blk_cell hblk3 2).trans (rfl : _ = some (Value.string l2))
      have j3 := (blk_cell hblk3 3).trans (rfl : _ = some (Value.bool hk))
      have j4 := (blk_cell hblk3 4).trans (rfl : _ = some (Value.string tx))
      have j5 := (blk_cell hblk3 5).trans (rfl : _ = some (Value.string s3))
      have j6 := (blk_cell hblk3 6).trans (rfl : _ = some (Value.string s4))
      have j7 := (blk_cell hblk3 7).trans (rfl : _ = some (Value.string s5))
      have j8 := (blk_cell hblk3 8).trans (rfl : _ = some (Value.bool hb))
      have HP3 := Aside0.mk hp_
      have HB3 := Aside0.mk (below_weaken HB.out (Nat.le_refl _) (pr_drawn hb_))
      clear hblk k4 hp_ hb_ hk_ HP HB hblk3
      generalize ht3 : tx.data.toList = txl at HP3
      have htl : txl.length = tx.size := by rw [← ht3]; exact size_dataL tx
      cases hk with
      | false =>
        go_wp2
        go_roundg (l.length - (kk + 1))
        case measure => omega
        case rel =>
          refine ⟨kk + 1, by omega, by omega, by go_num, HB3, ⟨?_⟩⟩
          rw [HS.out]
          have : partL wd ⟨⟨l0, l1, l2⟩, false, tx, s3, s4, s5, hb⟩ = txl := by unfold partL; simp [ht3]
          rw [this]; exact HP3.out
      | true =>
        go_wp2_with (first
          | (go_at_call 88; refine (pr_hunk ⟨⟨l0, l1, l2⟩, true, tx, s3, s4, s5, hb⟩ _ _ _ HP3.out w0 w1 z0 z1 z2 z3 z4 z5 HQ3.out HQ4.out HQ5.out (by rw [List.length_append]; omega) HB3.out.size).mono ?_; rintro e W4 ⟨rfl, hp4, hb4, _⟩))
        go_roundg (l.length - (kk + 1))
        case measure => omega
        case rel =>
          refine ⟨kk + 1, by omega, by omega, by go_num, ⟨below_weaken HB3.out (Nat.le_refl _) hb4⟩, ⟨?_⟩⟩
          rw [HS.out]
          have : partL wd ⟨⟨l0, l1, l2⟩, true, tx, s3, s4, s5, hb⟩ = txl ++ hunkL wd false ⟨⟨l0, l1, l2⟩, true, tx, s3, s4, s5, hb⟩ (sufQ s3) (sufQ s4) (sufQ s5) := by unfold partL; simp [ht3]
          rw [this, ← List.append_assoc]; exact hp4
    · obtain rfl : kk = l.length := by omega
      have q1 : ((l.length : Int) < (l.length : Int)) = False := by simp
      rw [List.take_length] at HP
      obtain ⟨p_, v_, hbld⟩ := HP.out
      have HS2 := fun hB => bld_string hbld hB
      go_wp2_with (first
        | (go_at_call 89; refine (HS2 HB.out.size).mono ?_; rintro e W5 ⟨rfl, hb5, _⟩))
      go_ret2
      exact ⟨rfl, below_weaken HB.out (Nat.le_refl _) hb5⟩
theorem print_calls (k : Nat) (A : Option Addr) (c : Nat) (l : List S106) (wd : Int) (r1 : ByteArray) (r2 : Int) (w : World) (hr : Kd.C k106 w A l.length l) (hc : l.length ≤ c) (h : printF k l wd = some (r1, r2)) :
    Calls Try.prog 47 #[.slice A l.length c, .int .i64 wd] w fun e w' => e = .returned (.tuple #[.string r1, .int .i64 r2]) ∧ Below w.heap.size w w' := by
  unfold printF at h
  obtain ⟨t, e0, h⟩ := Option.bind_eq_some_iff.1 h
  cases t with
  | false =>
    rw [if_neg (by decide)] at h
    cases h
    exact print_wide A c l.length wd w e0
  | true =>
    rw [if_pos rfl] at h
    obtain ⟨r, e1, h⟩ := Option.bind_eq_some_iff.1 h
    cases r with
    | false =>
      rw [if_neg (by decide)] at h
      cases h
      exact print_right k A c l wd w hr hc e0 e1
    | true =>
      rw [if_pos rfl] at h
      obtain ⟨g, e2, h⟩ := Option.bind_eq_some_iff.1 h
      cases g with
      | false =>
        rw [if_neg (by decide)] at h
        cases h
        exact print_fits k A c l wd w hr hc e0 e1 e2
      | true =>
        rw [if_pos rfl] at h
        split at h
        · rename_i hx
          cases h
          exact print_main k A c l wd w hr hc e0 e1 e2 hx.1 hx.2.1 hx.2.2.1 hx.2.2.2
        · cases h
theorem print_mono : ∀ l wd k, LeO (printF k l wd) (printF (k + 1) l wd) := by
  intro l wd k
  unfold printF
  refine LeO.bind (LeO.refl _) (fun _ => ?_)
  refine LeO.ite ?_ (LeO.refl _)
  refine LeO.bind (doc_Doc_Right.mono _ _) (fun _ => ?_)
  refine LeO.ite ?_ (LeO.refl _)
  refine LeO.bind (doc_Doc_Fits.mono _ _ _) (fun _ => LeO.refl _)
#print axioms print_calls
end Go.Proofs.Ytfiamddinkokbaa.F
end

section
set_option linter.unusedVariables false
set_option linter.unusedSimpArgs false
namespace Go.Proofs.Ytfiamddinkokbaa.F
open Go.RowKit Go.Proofs.YtfiamddinkokbaaW.PrintWords Go.Proofs.YtfiamddinkokbaaW.PrintLast Go.Proofs.YtfiamddinkokbaaW.PrintMore
attribute [local go_sem] max2_int min2_int max_two min_two max_three min_three max_four min_four
set_option linter.unusedVariables false
set_option linter.unusedSimpArgs false
def mark_Print.f (k : Nat) (l0 : List S106) (a1 : Int) : Option (ByteArray × Int) := printF k l0 a1
theorem mark_Print.mono : ∀ l0 a1 k, LeO (mark_Print.f k l0 a1) (mark_Print.f (k + 1) l0 a1) := print_mono
theorem mark_Print.calls (k : Nat) (A0 : Option Addr) (c0 : Nat) (l0 : List (S106)) (a1 : Int) (r1 : ByteArray) (r2 : Int) (w : World) (hr0 : Kd.C k106 w A0 l0.length l0) (hc0 : l0.length ≤ c0) (h : mark_Print.f k l0 a1 = some (r1, r2)) :
    Calls Try.prog 47 #[.slice A0 l0.length c0, .int .i64 a1] w fun e w' => e = .returned (.tuple #[.string r1, .int .i64 r2]) ∧ Below w.heap.size w w' := by
  exact print_calls k A0 c0 l0 a1 r1 r2 w hr0 hc0 h
end Go.Proofs.Ytfiamddinkokbaa.F
end
