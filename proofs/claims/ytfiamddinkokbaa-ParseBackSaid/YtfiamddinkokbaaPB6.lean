/- Texts joined into one file (wip/tools/pack.py): Fn90, Fn83, Fn126, Fn150 -/
import Derived.Test.YtfiamddinkokbaaPB3
import Derived.Test.YtfiamddinkokbaaPB4
set_option linter.unusedVariables false
set_option linter.unusedSimpArgs false
section
namespace Go.Proofs.Ytfiamddinkokbaa.F
open Go.RowKit Go.Proofs.YtfiamddinkokbaaW.PrintWords Go.Proofs.YtfiamddinkokbaaW.PrintLast Go.Proofs.YtfiamddinkokbaaW.PrintMore
attribute [local go_sem] max2_int min2_int max_two min_two max_three min_three max_four min_four
def tripartiteref08_wide.f (a0 : Int) : Option (Bool) := if a0 ≥ 1 then (some (decide (a0 ≤ 1073741824))) else (some false)
set_option maxHeartbeats 8000000 in
set_option maxRecDepth 100000 in
theorem tripartiteref08_wide.calls (a0 : Int) (r : Bool) (w : World) (h : tripartiteref08_wide.f a0 = some r) :
  Calls Try.prog 90 #[.int .i64 a0] w fun e w' => e = .returned (.bool r) ∧ Drawn0 w w' := by
 have H : (if a0 ≥ 1 then (some (decide (a0 ≤ 1073741824))) else (some false)) = some r := h
 clear h
 by_cases c2 : a0 ≥ 1
 ·rw [if_pos c2] at H
  have c2b0 : decide (1 ≤ a0) = true := decide_eq_true c2
  clear c2
  obtain rfl := Option.some.inj H
  go_enter Try.func90, Try.ntmps90
  go_wp2
  go_ret
  exact ⟨by first | rfl | (simp; done) | (simp [*]; done), by repeat (first | exact Drawn0.refl _ | apply Drawn0.step)⟩
 ·rw [if_neg c2] at H
  have c2b0 : decide (1 ≤ a0) = false := decide_eq_false c2
  clear c2
  obtain rfl := Option.some.inj H
  go_enter Try.func90, Try.ntmps90
  go_wp2
  go_ret
  exact ⟨by first | rfl | (simp; done) | (simp [*]; done), by repeat (first | exact Drawn0.refl _ | apply Drawn0.step)⟩
def tripartiteref01_Ends.f (a0 : ByteArray) : Option (Bool) := if (a0.size : Int) > 0 then (if 0 ≤ (wrap64 ((a0.size : Int) - 1)) then (if (wrap64 ((a0.size : Int) - 1)) < (a0.size : Int) then (some ((bt a0 (wrap64 ((a0.size : Int) - 1))) == 10)) else (none)) else (none)) else (some false)
set_option maxHeartbeats 8000000 in
set_option maxRecDepth 100000 in
theorem tripartiteref01_Ends.calls (a0 : ByteArray) (r : Bool) (w : World) (h : tripartiteref01_Ends.f a0 = some r) :
  Calls Try.prog 83 #[.string a0] w fun e w' => e = .returned (.bool r) ∧ Drawn0 w w' := by
 have H : (if (a0.size : Int) > 0 then (if 0 ≤ (wrap64 ((a0.size : Int) - 1)) then (if (wrap64 ((a0.size : Int) - 1)) < (a0.size : Int) then (some ((bt a0 (wrap64 ((a0.size : Int) - 1))) == 10)) else (none)) else (none)) else (some false)) = some r := h
 clear h
 by_cases c2 : (a0.size : Int) > 0
 ·rw [if_pos c2] at H
  have c2b0 : decide (0 < (a0.size : Int)) = true := decide_eq_true c2
  have c2b1 : decide (0 < a0.size) = true := decide_eq_true (by omega)
  clear c2
  obtain ⟨ji3, hji3⟩ : ∃ j_ : Int, (wrap64 ((a0.size : Int) - 1)) = j_ := ⟨_, rfl⟩
  replace H : (if 0 ≤ (ji3) then (if (ji3) < (a0.size : Int) then (some ((bt a0 (ji3)) == 10)) else (none)) else (none)) = some r := by first | (rw [hji3] at H; exact H) | (simp only [hji3] at H ⊢; exact H)
  have hji3w : (IntKind.i64.wrap ((a0.size : Int) - 1)) = ji3 := (i64_w _).trans hji3
  by_cases c4 : 0 ≤ (ji3)
  ·rw [if_pos c4] at H
   have c4b0 : decide (0 ≤ (ji3)) = true := decide_eq_true c4
   clear c4
   by_cases c5 : (ji3) < (a0.size : Int)
   ·rw [if_pos c5] at H
    have c5b0 : decide ((ji3) < (a0.size : Int)) = true := decide_eq_true c5
    clear c5
    obtain rfl := Option.some.inj H
    have p6 : 0 ≤ ((ji3) : Int) := of_decide_eq_true (by first | (with_reducible assumption) | assumption)
    have q6 : (ji3) < (a0.size : Int) := of_decide_eq_true (by first | (with_reducible assumption) | assumption)
    have hx6 := bt_at a0 (ji3)
    replace p6 := eq_true p6
    replace q6 := eq_true q6
    go_enter Try.func83, Try.ntmps83
    go_wp2
    go_ret
    exact ⟨by first | rfl | (simp; done) | (simp only [← hji3] <;> (first | rfl | simp)) | (simp [*]; done), by repeat (first | exact Drawn0.refl _ | apply Drawn0.step)⟩
   ·rw [if_neg c5] at H
    exact absurd H (by simp)
  ·rw [if_neg c4] at H
   exact absurd H (by simp)
 ·rw [if_neg c2] at H
  have c2b0 : decide (0 < (a0.size : Int)) = false := decide_eq_false c2
  have c2b1 : decide (0 < a0.size) = false := decide_eq_false (by omega)
  clear c2
  obtain rfl := Option.some.inj H
  go_enter Try.func83, Try.ntmps83
  go_wp2
  go_ret
  exact ⟨by first | rfl | (simp; done) | (simp [*]; done), by repeat (first | exact Drawn0.refl _ | apply Drawn0.step)⟩
end Go.Proofs.Ytfiamddinkokbaa.F
end

section
namespace Go.Proofs.Ytfiamddinkokbaa.F
open Go.RowKit Go.Proofs.YtfiamddinkokbaaW.PrintWords Go.Proofs.YtfiamddinkokbaaW.PrintLast Go.Proofs.YtfiamddinkokbaaW.PrintMore
attribute [local go_sem] max2_int min2_int max_two min_two max_three min_three max_four min_four
attribute [local go_sem high] eqA109
def tripartiteref07_one.f (a0_0 : ByteArray) (a0_1 : ByteArray) (a0_2 : ByteArray) (a0_3 : Bool) (a0_4 : ByteArray) (a0_5 : ByteArray) (a0_6 : ByteArray) (a0_7 : ByteArray) (a0_8 : Bool) : Option (Bool) := if a0_3 = true then (if a0_4.toList = ([] : List UInt8) then (if a0_8 = true then (some true) else (if a0_6.toList = ([] : List UInt8) then (some (a0_1.toList == ([] : List UInt8))) else (some false))) else (some false)) else (some (a0_0.toList.isEmpty && (a0_1.toList.isEmpty && (a0_2.toList.isEmpty && (!a0_3 && (a0_5.toList.isEmpty && (a0_6.toList.isEmpty && (a0_7.toList.isEmpty && (!a0_8)))))))))
set_option maxHeartbeats 8000000 in
set_option maxRecDepth 100000 in
theorem tripartiteref07_one.calls (a0_0 : ByteArray) (a0_1 : ByteArray) (a0_2 : ByteArray) (a0_3 : Bool) (a0_4 : ByteArray) (a0_5 : ByteArray) (a0_6 : ByteArray) (a0_7 : ByteArray) (a0_8 : Bool) (r : Bool) (w : World) (h : tripartiteref07_one.f a0_0 a0_1 a0_2 a0_3 a0_4 a0_5 a0_6 a0_7 a0_8 = some r) :
  Calls Try.prog 126 #[.agg #[.string a0_0, .string a0_1, .string a0_2, .bool a0_3, .string a0_4, .string a0_5, .string a0_6, .string a0_7, .bool a0_8]] w fun e w' => e = .returned (.bool r) ∧ Below w.heap.size w w' := by
 have hu109 := Try.underlying109
 have HB := Aside0.mk (Below.refl w.heap.size w)
 have H : (if a0_3 = true then (if a0_4.toList = ([] : List UInt8) then (if a0_8 = true then (some true) else (if a0_6.toList = ([] : List UInt8) then (some (a0_1.toList == ([] : List UInt8))) else (some false))) else (some false)) else (some (a0_0.toList.isEmpty && (a0_1.toList.isEmpty && (a0_2.toList.isEmpty && (!a0_3 && (a0_5.toList.isEmpty && (a0_6.toList.isEmpty && (a0_7.toList.isEmpty && (!a0_8)))))))))) = some r := h
 clear h
 by_cases c2 : a0_3 = true
 ·subst c2
  have H1 : (if a0_4.toList = ([] : List UInt8) then (if a0_8 = true then (some true) else (if a0_6.toList = ([] : List UInt8) then (some (a0_1.toList == ([] : List UInt8))) else (some false))) else (some false)) = some r := by rw [if_pos rfl] at H; exact H
  clear H
  have H := H1
  clear H1
  by_cases c3 : a0_4.toList = ([] : List UInt8)
  ·rw [if_pos c3] at H
   have c3b0 : (a0_4.toList == ([] : List UInt8)) = true := beq_iff_eq.mpr c3
   have c3b1 : (a0_4.toList != ([] : List UInt8)) = false := bne_eq_false_iff_eq.mpr c3
   clear c3
   by_cases c4 : a0_8 = true
   ·subst c4
    have H1 : (some true) = some r := by rw [if_pos rfl] at H; exact H
    clear H
    have H := H1
    clear H1
    obtain rfl := Option.some.inj H
    go_enter Try.func126, Try.ntmps126
    go_wp2_with (first | ((with_reducible refine gate_dst (N := 1) rfl ?_); refine box_event ?hg (N := 1) ?hd (cs := #[.string a0_0, .string a0_1, .string a0_2, .bool true, .string a0_4, .string a0_5, .string a0_6, .string a0_7, .bool true]) (t := 109) ?hr ?_; (case hd => rfl); (case hg => rfl); (case hr => first | (go_simp; done) | (go_simp; rfl)); intro gb371 hg w5 hbox hb; have n0_ := Aside0.mk (below_step (by repeat (first | (with_reducible first | exact HB.out | apply below_alloc | apply pw_below_drewN | apply below_drew1) | exact HB.out)) hb); have n1_ := Aside0.mk (hbox); have n2_ := Aside0.mk ((by rw [hg]; exact (below_size (by repeat (first | (with_reducible first | exact HB.out | apply below_alloc | apply pw_below_drewN | apply below_drew1) | exact HB.out))) : w.heap.size ≤ gb371)); have n3_ := Aside0.mk ((by rw [hg]; exact (below_size (by repeat (first | (with_reducible first | exact HB.out | apply below_alloc | apply pw_below_drewN | apply below_drew1) | exact HB.out))) : w.heap.size ≤ gb371)); clear HB; have HB := n0_; have BK371 := n1_; have GW371 := n2_; have GE371 := n3_; clear n0_ n1_ n2_ n3_; clear hb hbox hg; have hcz6_0 : w5.cell? ⟨gb371, 0, none⟩ = some (.string a0_0) := (blk_cell BK371.out 0).trans rfl; have hcz6_1 : w5.cell? ⟨gb371, 1, none⟩ = some (.string a0_1) := (blk_cell BK371.out 1).trans rfl; have hcz6_2 : w5.cell? ⟨gb371, 2, none⟩ = some (.string a0_2) := (blk_cell BK371.out 2).trans rfl; have hcz6_3 : w5.cell? ⟨gb371, 3, none⟩ = some (.bool true) := (blk_cell BK371.out 3).trans rfl; have hcz6_4 : w5.cell? ⟨gb371, 4, none⟩ = some (.string a0_4) := (blk_cell BK371.out 4).trans rfl; have hcz6_5 : w5.cell? ⟨gb371, 5, none⟩ = some (.string a0_5) := (blk_cell BK371.out 5).trans rfl; have hcz6_6 : w5.cell? ⟨gb371, 6, none⟩ = some (.string a0_6) := (blk_cell BK371.out 6).trans rfl; have hcz6_7 : w5.cell? ⟨gb371, 7, none⟩ = some (.string a0_7) := (blk_cell BK371.out 7).trans rfl; have hcz6_8 : w5.cell? ⟨gb371, 8, none⟩ = some (.bool true) := (blk_cell BK371.out 8).trans rfl; have hfz6_0 := blk_frozen BK371.out 0; have hfz6_1 := blk_frozen BK371.out 1; have hfz6_2 := blk_frozen BK371.out 2; have hfz6_3 := blk_frozen BK371.out 3; have hfz6_4 := blk_frozen BK371.out 4; have hfz6_5 := blk_frozen BK371.out 5; have hfz6_6 := blk_frozen BK371.out 6; have hfz6_7 := blk_frozen BK371.out 7; have hfz6_8 := blk_frozen BK371.out 8))
    go_ret
    exact ⟨by first | rfl | (simp [errW_none, errW_some] <;> rfl) | (simp [*, errW_none, errW_some] <;> rfl), by repeat (first | (with_reducible first | exact HB.out | apply below_alloc | apply pw_below_drewN | apply below_drew1 | refine below_set ?_ GE371.out) | exact HB.out)⟩
   ·replace c4 := Bool.eq_false_iff.mpr c4
    subst c4
    have H1 : (if a0_6.toList = ([] : List UInt8) then (some (a0_1.toList == ([] : List UInt8))) else (some false)) = some r := by rw [if_neg (show ¬ (false = true) by decide)] at H; exact H
    clear H
    have H := H1
    clear H1
    by_cases c7 : a0_6.toList = ([] : List UInt8)
    ·rw [if_pos c7] at H
     have c7b0 : (a0_6.toList == ([] : List UInt8)) = true := beq_iff_eq.mpr c7
     have c7b1 : (a0_6.toList != ([] : List UInt8)) = false := bne_eq_false_iff_eq.mpr c7
     clear c7
     obtain rfl := Option.some.inj H
     go_enter Try.func126, Try.ntmps126
     go_wp2_with (first | ((with_reducible refine gate_dst (N := 1) rfl ?_); refine box_event ?hg (N := 1) ?hd (cs := #[.string a0_0, .string a0_1, .string a0_2, .bool true, .string a0_4, .string a0_5, .string a0_6, .string a0_7, .bool false]) (t := 109) ?hr ?_; (case hd => rfl); (case hg => rfl); (case hr => first | (go_simp; done) | (go_simp; rfl)); intro gb371 hg w8 hbox hb; have n0_ := Aside0.mk (below_step (by repeat (first | (with_reducible first | exact HB.out | apply below_alloc | apply pw_below_drewN | apply below_drew1) | exact HB.out)) hb); have n1_ := Aside0.mk (hbox); have n2_ := Aside0.mk ((by rw [hg]; exact (below_size (by repeat (first | (with_reducible first | exact HB.out | apply below_alloc | apply pw_below_drewN | apply below_drew1) | exact HB.out))) : w.heap.size ≤ gb371)); have n3_ := Aside0.mk ((by rw [hg]; exact (below_size (by repeat (first | (with_reducible first | exact HB.out | apply below_alloc | apply pw_below_drewN | apply below_drew1) | exact HB.out))) : w.heap.size ≤ gb371)); clear HB; have HB := n0_; have BK371 := n1_; have GW371 := n2_; have GE371 := n3_; clear n0_ n1_ n2_ n3_; clear hb hbox hg; have hcz9_0 : w8.cell? ⟨gb371, 0, none⟩ = some (.string a0_0) := (blk_cell BK371.out 0).trans rfl; have hcz9_1 : w8.cell? ⟨gb371, 1, none⟩ = some (.string a0_1) := (blk_cell BK371.out 1).trans rfl; have hcz9_2 : w8.cell? ⟨gb371, 2, none⟩ = some (.string a0_2) := (blk_cell BK371.out 2).trans rfl; have hcz9_3 : w8.cell? ⟨gb371, 3, none⟩ = some (.bool true) := (blk_cell BK371.out 3).trans rfl; have hcz9_4 : w8.cell? ⟨gb371, 4, none⟩ = some (.string a0_4) := (blk_cell BK371.out 4).trans rfl; have hcz9_5 : w8.cell? ⟨gb371, 5, none⟩ = some (.string a0_5) := (blk_cell BK371.out 5).trans rfl; have hcz9_6 : w8.cell? ⟨gb371, 6, none⟩ = some (.string a0_6) := (blk_cell BK371.out 6).trans rfl; have hcz9_7 : w8.cell? ⟨gb371, 7, none⟩ = some (.string a0_7) := (blk_cell BK371.out 7).trans rfl; have hcz9_8 : w8.cell? ⟨gb371, 8, none⟩ = some (.bool false) := (blk_cell BK371.out 8).trans rfl; have hfz9_0 := blk_frozen BK371.out 0; have hfz9_1 := blk_frozen BK371.out 1; have hfz9_2 := blk_frozen BK371.out 2; have hfz9_3 := blk_frozen BK371.out 3; have hfz9_4 := blk_frozen BK371.out 4; have hfz9_5 := blk_frozen BK371.out 5; have hfz9_6 := blk_frozen BK371.out 6; have hfz9_7 := blk_frozen BK371.out 7; have hfz9_8 := blk_frozen BK371.out 8))
     go_ret
     exact ⟨by first | rfl | (simp [errW_none, errW_some] <;> rfl) | (simp [*, errW_none, errW_some] <;> rfl), by repeat (first | (with_reducible first | exact HB.out | apply below_alloc | apply pw_below_drewN | apply below_drew1 | refine below_set ?_ GE371.out) | exact HB.out)⟩
    ·rw [if_neg c7] at H
     have c7b0 : (a0_6.toList == ([] : List UInt8)) = false := beq_eq_false_iff_ne.mpr c7
     have c7b1 : (a0_6.toList != ([] : List UInt8)) = true := bne_iff_ne.mpr c7
     obtain rfl := Option.some.inj H
     go_enter Try.func126, Try.ntmps126
     go_wp2_with (first | ((with_reducible refine gate_dst (N := 1) rfl ?_); refine box_event ?hg (N := 1) ?hd (cs := #[.string a0_0, .string a0_1, .string a0_2, .bool true, .string a0_4, .string a0_5, .string a0_6, .string a0_7, .bool false]) (t := 109) ?hr ?_; (case hd => rfl); (case hg => rfl); (case hr => first | (go_simp; done) | (go_simp; rfl)); intro gb371 hg w10 hbox hb; have n0_ := Aside0.mk (below_step (by repeat (first | (with_reducible first | exact HB.out | apply below_alloc | apply pw_below_drewN | apply below_drew1) | exact HB.out)) hb); have n1_ := Aside0.mk (hbox); have n2_ := Aside0.mk ((by rw [hg]; exact (below_size (by repeat (first | (with_reducible first | exact HB.out | apply below_alloc | apply pw_below_drewN | apply below_drew1) | exact HB.out))) : w.heap.size ≤ gb371)); have n3_ := Aside0.mk ((by rw [hg]; exact (below_size (by repeat (first | (with_reducible first | exact HB.out | apply below_alloc | apply pw_below_drewN | apply below_drew1) | exact HB.out))) : w.heap.size ≤ gb371)); clear HB; have HB := n0_; have BK371 := n1_; have GW371 := n2_; have GE371 := n3_; clear n0_ n1_ n2_ n3_; clear hb hbox hg; have hcz11_0 : w10.cell? ⟨gb371, 0, none⟩ = some (.string a0_0) := (blk_cell BK371.out 0).trans rfl; have hcz11_1 : w10.cell? ⟨gb371, 1, none⟩ = some (.string a0_1) := (blk_cell BK371.out 1).trans rfl; have hcz11_2 : w10.cell? ⟨gb371, 2, none⟩ = some (.string a0_2) := (blk_cell BK371.out 2).trans rfl; have hcz11_3 : w10.cell? ⟨gb371, 3, none⟩ = some (.bool true) := (blk_cell BK371.out 3).trans rfl; have hcz11_4 : w10.cell? ⟨gb371, 4, none⟩ = some (.string a0_4) := (blk_cell BK371.out 4).trans rfl; have hcz11_5 : w10.cell? ⟨gb371, 5, none⟩ = some (.string a0_5) := (blk_cell BK371.out 5).trans rfl; have hcz11_6 : w10.cell? ⟨gb371, 6, none⟩ = some (.string a0_6) := (blk_cell BK371.out 6).trans rfl; have hcz11_7 : w10.cell? ⟨gb371, 7, none⟩ = some (.string a0_7) := (blk_cell BK371.out 7).trans rfl; have hcz11_8 : w10.cell? ⟨gb371, 8, none⟩ = some (.bool false) := (blk_cell BK371.out 8).trans rfl; have hfz11_0 := blk_frozen BK371.out 0; have hfz11_1 := blk_frozen BK371.out 1; have hfz11_2 := blk_frozen BK371.out 2; have hfz11_3 := blk_frozen BK371.out 3; have hfz11_4 := blk_frozen BK371.out 4; have hfz11_5 := blk_frozen BK371.out 5; have hfz11_6 := blk_frozen BK371.out 6; have hfz11_7 := blk_frozen BK371.out 7; have hfz11_8 := blk_frozen BK371.out 8))
     go_ret
     exact ⟨by first | rfl | (simp [errW_none, errW_some] <;> rfl) | (simp [*, errW_none, errW_some] <;> rfl), by repeat (first | (with_reducible first | exact HB.out | apply below_alloc | apply pw_below_drewN | apply below_drew1 | refine below_set ?_ GE371.out) | exact HB.out)⟩
  ·rw [if_neg c3] at H
   have c3b0 : (a0_4.toList == ([] : List UInt8)) = false := beq_eq_false_iff_ne.mpr c3
   have c3b1 : (a0_4.toList != ([] : List UInt8)) = true := bne_iff_ne.mpr c3
   obtain rfl := Option.some.inj H
   go_enter Try.func126, Try.ntmps126
   go_wp2_with (first | ((with_reducible refine gate_dst (N := 1) rfl ?_); refine box_event ?hg (N := 1) ?hd (cs := #[.string a0_0, .string a0_1, .string a0_2, .bool true, .string a0_4, .string a0_5, .string a0_6, .string a0_7, .bool a0_8]) (t := 109) ?hr ?_; (case hd => rfl); (case hg => rfl); (case hr => first | (go_simp; done) | (go_simp; rfl)); intro gb371 hg w12 hbox hb; have n0_ := Aside0.mk (below_step (by repeat (first | (with_reducible first | exact HB.out | apply below_alloc | apply pw_below_drewN | apply below_drew1) | exact HB.out)) hb); have n1_ := Aside0.mk (hbox); have n2_ := Aside0.mk ((by rw [hg]; exact (below_size (by repeat (first | (with_reducible first | exact HB.out | apply below_alloc | apply pw_below_drewN | apply below_drew1) | exact HB.out))) : w.heap.size ≤ gb371)); have n3_ := Aside0.mk ((by rw [hg]; exact (below_size (by repeat (first | (with_reducible first | exact HB.out | apply below_alloc | apply pw_below_drewN | apply below_drew1) | exact HB.out))) : w.heap.size ≤ gb371)); clear HB; have HB := n0_; have BK371 := n1_; have GW371 := n2_; have GE371 := n3_; clear n0_ n1_ n2_ n3_; clear hb hbox hg; have hcz13_0 : w12.cell? ⟨gb371, 0, none⟩ = some (.string a0_0) := (blk_cell BK371.out 0).trans rfl; have hcz13_1 : w12.cell? ⟨gb371, 1, none⟩ = some (.string a0_1) := (blk_cell BK371.out 1).trans rfl; have hcz13_2 : w12.cell? ⟨gb371, 2, none⟩ = some (.string a0_2) := (blk_cell BK371.out 2).trans rfl; have hcz13_3 : w12.cell? ⟨gb371, 3, none⟩ = some (.bool true) := (blk_cell BK371.out 3).trans rfl; have hcz13_4 : w12.cell? ⟨gb371, 4, none⟩ = some (.string a0_4) := (blk_cell BK371.out 4).trans rfl; have hcz13_5 : w12.cell? ⟨gb371, 5, none⟩ = some (.string a0_5) := (blk_cell BK371.out 5).trans rfl; have hcz13_6 : w12.cell? ⟨gb371, 6, none⟩ = some (.string a0_6) := (blk_cell BK371.out 6).trans rfl; have hcz13_7 : w12.cell? ⟨gb371, 7, none⟩ = some (.string a0_7) := (blk_cell BK371.out 7).trans rfl; have hcz13_8 : w12.cell? ⟨gb371, 8, none⟩ = some (.bool a0_8) := (blk_cell BK371.out 8).trans rfl; have hfz13_0 := blk_frozen BK371.out 0; have hfz13_1 := blk_frozen BK371.out 1; have hfz13_2 := blk_frozen BK371.out 2; have hfz13_3 := blk_frozen BK371.out 3; have hfz13_4 := blk_frozen BK371.out 4; have hfz13_5 := blk_frozen BK371.out 5; have hfz13_6 := blk_frozen BK371.out 6; have hfz13_7 := blk_frozen BK371.out 7; have hfz13_8 := blk_frozen BK371.out 8))
   go_ret
   exact ⟨by first | rfl | (simp [errW_none, errW_some] <;> rfl) | (simp [*, errW_none, errW_some] <;> rfl), by repeat (first | (with_reducible first | exact HB.out | apply below_alloc | apply pw_below_drewN | apply below_drew1 | refine below_set ?_ GE371.out) | exact HB.out)⟩
 ·replace c2 := Bool.eq_false_iff.mpr c2
  subst c2
  have H1 : (some (a0_0.toList.isEmpty && (a0_1.toList.isEmpty && (a0_2.toList.isEmpty && (!false && (a0_5.toList.isEmpty && (a0_6.toList.isEmpty && (a0_7.toList.isEmpty && (!a0_8))))))))) = some r := by rw [if_neg (show ¬ (false = true) by decide)] at H; exact H
  clear H
  have H := H1
  clear H1
  obtain rfl := Option.some.inj H
  go_enter Try.func126, Try.ntmps126
  go_wp2_with (first | ((with_reducible refine gate_dst (N := 1) rfl ?_); refine box_event ?hg (N := 1) ?hd (cs := #[.string a0_0, .string a0_1, .string a0_2, .bool false, .string a0_4, .string a0_5, .string a0_6, .string a0_7, .bool a0_8]) (t := 109) ?hr ?_; (case hd => rfl); (case hg => rfl); (case hr => first | (go_simp; done) | (go_simp; rfl)); intro gb371 hg w14 hbox hb; have n0_ := Aside0.mk (below_step (by repeat (first | (with_reducible first | exact HB.out | apply below_alloc | apply pw_below_drewN | apply below_drew1) | exact HB.out)) hb); have n1_ := Aside0.mk (hbox); have n2_ := Aside0.mk ((by rw [hg]; exact (below_size (by repeat (first | (with_reducible first | exact HB.out | apply below_alloc | apply pw_below_drewN | apply below_drew1) | exact HB.out))) : w.heap.size ≤ gb371)); have n3_ := Aside0.mk ((by rw [hg]; exact (below_size (by repeat (first | (with_reducible first | exact HB.out | apply below_alloc | apply pw_below_drewN | apply below_drew1) | exact HB.out))) : w.heap.size ≤ gb371)); clear HB; have HB := n0_; have BK371 := n1_; have GW371 := n2_; have GE371 := n3_; clear n0_ n1_ n2_ n3_; clear hb hbox hg; have hcz15_0 : w14.cell? ⟨gb371, 0, none⟩ = some (.string a0_0) := (blk_cell BK371.out 0).trans rfl; have hcz15_1 : w14.cell? ⟨gb371, 1, none⟩ = some (.string a0_1) := (blk_cell BK371.out 1).trans rfl; have hcz15_2 : w14.cell? ⟨gb371, 2, none⟩ = some (.string a0_2) := (blk_cell BK371.out 2).trans rfl; have hcz15_3 : w14.cell? ⟨gb371, 3, none⟩ = some (.bool false) := (blk_cell BK371.out 3).trans rfl; have hcz15_4 : w14.cell? ⟨gb371, 4, none⟩ = some (.string a0_4) := (blk_cell BK371.out 4).trans rfl; have hcz15_5 : w14.cell? ⟨gb371, 5, none⟩ = some (.string a0_5) := (blk_cell BK371.out 5).trans rfl; have hcz15_6 : w14.cell? ⟨gb371, 6, none⟩ = some (.string a0_6) := (blk_cell BK371.out 6).trans rfl; have hcz15_7 : w14.cell? ⟨gb371, 7, none⟩ = some (.string a0_7) := (blk_cell BK371.out 7).trans rfl; have hcz15_8 : w14.cell? ⟨gb371, 8, none⟩ = some (.bool a0_8) := (blk_cell BK371.out 8).trans rfl; have hfz15_0 := blk_frozen BK371.out 0; have hfz15_1 := blk_frozen BK371.out 1; have hfz15_2 := blk_frozen BK371.out 2; have hfz15_3 := blk_frozen BK371.out 3; have hfz15_4 := blk_frozen BK371.out 4; have hfz15_5 := blk_frozen BK371.out 5; have hfz15_6 := blk_frozen BK371.out 6; have hfz15_7 := blk_frozen BK371.out 7; have hfz15_8 := blk_frozen BK371.out 8))
  go_ret
  exact ⟨by first | rfl | (simp [errW_none, errW_some] <;> rfl) | (simp [*, errW_none, errW_some] <;> rfl), by repeat (first | (with_reducible first | exact HB.out | apply below_alloc | apply pw_below_drewN | apply below_drew1 | refine below_set ?_ GE371.out) | exact HB.out)⟩
end Go.Proofs.Ytfiamddinkokbaa.F
end

section
namespace Go.Proofs.Ytfiamddinkokbaa.F
open Go.RowKit Go.Proofs.YtfiamddinkokbaaW.PrintWords Go.Proofs.YtfiamddinkokbaaW.PrintLast Go.Proofs.YtfiamddinkokbaaW.PrintMore
attribute [local go_sem] max2_int min2_int max_two min_two max_three min_three max_four min_four
def tripartiteref07_plain.l0 : Nat → ByteArray → Int → Option (Bool)
 | 0, _, _ => none
 | k + 1, x0, x3 => if x3 < (x0.size : Int) then (if 0 ≤ x3 then (if (bt x0 x3) = 10 then (some false) else (tripartiteref07_plain.l0 k x0 (wrap64 (x3 + 1)))) else (none)) else (some true)
def tripartiteref07_plain.f (k : Nat) (a0 : ByteArray) : Option (Bool) := tripartiteref07_plain.l0 k a0 0
theorem tripartiteref07_plain.mono_l : ∀ k, (∀ y0 y1, LeO (tripartiteref07_plain.l0 k y0 y1) (tripartiteref07_plain.l0 (k + 1) y0 y1))
 | 0 => fun _ _ r h => by simp [tripartiteref07_plain.l0] at h
 | k + 1 => by
  have ih0 := tripartiteref07_plain.mono_l k
  ·intro y0 y1
   unfold tripartiteref07_plain.l0
   repeat' first
   | (with_reducible exact ih0 _ _)
   | (with_reducible exact LeO.refl _)
   | (with_reducible exact LeO.none _)
   | (with_reducible refine LeO.ite ?_ ?_)
   | (with_reducible refine LeO.bind ?_ (fun _ => ?_))
   | exact ih0 _ _
   | exact LeO.none _
   | refine LeO.ite ?_ ?_
   | refine LeO.bind ?_ (fun _ => ?_)
theorem tripartiteref07_plain.mono : ∀ a0 k, LeO (tripartiteref07_plain.f k a0) (tripartiteref07_plain.f (k + 1) a0) := by
 intro a0 k
 have ih0 := tripartiteref07_plain.mono_l k
 unfold tripartiteref07_plain.f
 repeat' first
   | (with_reducible exact ih0 _ _)
   | (with_reducible exact LeO.refl _)
   | (with_reducible exact LeO.none _)
   | (with_reducible refine LeO.ite ?_ ?_)
   | (with_reducible refine LeO.bind ?_ (fun _ => ?_))
   | exact ih0 _ _
   | exact LeO.none _
   | refine LeO.ite ?_ ?_
   | refine LeO.bind ?_ (fun _ => ?_)
set_option maxHeartbeats 8000000 in
set_option maxRecDepth 100000 in
theorem tripartiteref07_plain.calls (k : Nat) (a0 : ByteArray) (r : Bool) (w : World) (h : tripartiteref07_plain.f k a0 = some r) :
  Calls Try.prog 150 #[.string a0] w fun e w' => e = .returned (.bool r) ∧ Drawn0 w w' := by
 have H : (tripartiteref07_plain.l0 k a0 0) = some r := h
 clear h
 have H' := Aside0.mk H
 clear H
 go_enter Try.func150, Try.ntmps150
 go_wp2
 go_loopg [3] k (fun kq v3 w' => ∃ (x3_1 : Int), v3 = .int .i64 x3_1 ∧ Aside0 (tripartiteref07_plain.l0 kq a0 x3_1 = some r) ∧ Aside0 (kq ≤ k) ∧ Drawn0 w w')
 case atStart => exact ⟨(0), (by first | rfl | (simp; done) | (simp [*]; done)), H', ⟨Nat.le_refl _⟩, by repeat (first | exact Drawn0.refl _ | apply Drawn0.step)⟩
 case round =>
  clear H'
  try clear c1
  obtain ⟨x3_1, rfl, HA, HK1, ⟨m1, rfl⟩⟩ := hrel
  cases gk with
  | zero => exact absurd HA.out (by simp [tripartiteref07_plain.l0])
  | succ k1 =>
   have H := HA.out
   clear HA
   simp only [tripartiteref07_plain.l0] at H
   by_cases c2 : x3_1 < (a0.size : Int)
   ·rw [if_pos c2] at H
    have c2b0 : decide (x3_1 < (a0.size : Int)) = true := decide_eq_true c2
    clear c2
    by_cases c3 : 0 ≤ x3_1
    ·rw [if_pos c3] at H
     have c3b0 : decide (0 ≤ x3_1) = true := decide_eq_true c3
     clear c3
     by_cases c5 : (bt a0 x3_1) = 10
     ·rw [if_pos c5] at H
      have c5b0 : ((bt a0 x3_1) == 10) = true := beq_iff_eq.mpr c5
      have c5b1 : ((bt a0 x3_1) != 10) = false := bne_eq_false_iff_eq.mpr c5
      clear c5
      obtain rfl := Option.some.inj H
      have p4 : 0 ≤ (x3_1 : Int) := of_decide_eq_true (by first | (with_reducible assumption) | assumption)
      have q4 : x3_1 < (a0.size : Int) := of_decide_eq_true (by first | (with_reducible assumption) | assumption)
      have hx4 := bt_at a0 x3_1
      replace p4 := eq_true p4
      replace q4 := eq_true q4
      go_wp2
      go_ret
      exact ⟨by first | rfl | (simp; done) | (simp [*]; done), by repeat (first | exact Drawn0.refl _ | apply Drawn0.step)⟩
     ·rw [if_neg c5] at H
      have c5b0 : ((bt a0 x3_1) == 10) = false := beq_eq_false_iff_ne.mpr c5
      have c5b1 : ((bt a0 x3_1) != 10) = true := bne_iff_ne.mpr c5
      have H' := Aside0.mk H
      clear H
      have p4 : 0 ≤ (x3_1 : Int) := of_decide_eq_true (by first | (with_reducible assumption) | assumption)
      have q4 : x3_1 < (a0.size : Int) := of_decide_eq_true (by first | (with_reducible assumption) | assumption)
      have hx4 := bt_at a0 x3_1
      replace p4 := eq_true p4
      replace q4 := eq_true q4
      go_wp2
      go_roundg k1
      case measure => have := HK1.out; omega
      case rel => exact ⟨(wrap64 (x3_1 + 1)), (by first | rfl | (simp; done) | (simp [*]; done)), H', ⟨by have := HK1.out; omega⟩, by repeat (first | exact Drawn0.refl _ | apply Drawn0.step)⟩
    ·rw [if_neg c3] at H
     exact absurd H (by simp)
   ·rw [if_neg c2] at H
    have c2b0 : decide (x3_1 < (a0.size : Int)) = false := decide_eq_false c2
    clear c2
    obtain rfl := Option.some.inj H
    go_wp2
    go_ret
    exact ⟨by first | rfl | (simp; done) | (simp [*]; done), by repeat (first | exact Drawn0.refl _ | apply Drawn0.step)⟩
end Go.Proofs.Ytfiamddinkokbaa.F
end
