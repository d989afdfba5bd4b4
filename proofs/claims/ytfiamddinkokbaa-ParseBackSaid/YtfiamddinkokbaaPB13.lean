/- Texts joined into one file (wip/tools/pack.py): Fn94 -/
import Derived.Test.YtfiamddinkokbaaPB3
import Derived.Test.YtfiamddinkokbaaPB12
set_option linter.unusedVariables false
set_option linter.unusedSimpArgs false
namespace Go.Proofs.Ytfiamddinkokbaa.F
open Go.RowKit Go.Proofs.YtfiamddinkokbaaW.PrintWords Go.Proofs.YtfiamddinkokbaaW.PrintLast Go.Proofs.YtfiamddinkokbaaW.PrintMore
attribute [local go_sem] max2_int min2_int max_two min_two max_three min_three max_four min_four
def tripartiteref08_line.f (k : Nat) (a0_0 : Int) (a0_1 : Bool) (a0_2 : ByteArray) (a1 : Int) : Option (ByteArray) := (tripartiteref08_repeat.f k a0_0 a1).bind fun t394 => (if a0_1 = true then (if t394.size + 1 ≤ 9223372036854775807 then (if a0_2.toList = ([] : List UInt8) then (if (t394 ++ (⟨#[33]⟩ : ByteArray)).size + 1 ≤ 9223372036854775807 then (some ((t394 ++ (⟨#[33]⟩ : ByteArray)) ++ (⟨#[10]⟩ : ByteArray))) else (none)) else (if (t394 ++ (⟨#[33]⟩ : ByteArray)).size + 1 ≤ 9223372036854775807 then (if ((t394 ++ (⟨#[33]⟩ : ByteArray)) ++ (⟨#[32]⟩ : ByteArray)).size + a0_2.size ≤ 9223372036854775807 then (if (((t394 ++ (⟨#[33]⟩ : ByteArray)) ++ (⟨#[32]⟩ : ByteArray)) ++ a0_2).size + 1 ≤ 9223372036854775807 then (some ((((t394 ++ (⟨#[33]⟩ : ByteArray)) ++ (⟨#[32]⟩ : ByteArray)) ++ a0_2) ++ (⟨#[10]⟩ : ByteArray))) else (none)) else (none)) else (none))) else (none)) else (if a0_2.toList = ([] : List UInt8) then (if t394.size + 1 ≤ 9223372036854775807 then (some (t394 ++ (⟨#[10]⟩ : ByteArray))) else (none)) else (if t394.size + 1 ≤ 9223372036854775807 then (if (t394 ++ (⟨#[32]⟩ : ByteArray)).size + a0_2.size ≤ 9223372036854775807 then (if ((t394 ++ (⟨#[32]⟩ : ByteArray)) ++ a0_2).size + 1 ≤ 9223372036854775807 then (some (((t394 ++ (⟨#[32]⟩ : ByteArray)) ++ a0_2) ++ (⟨#[10]⟩ : ByteArray))) else (none)) else (none)) else (none))))
theorem tripartiteref08_line.mono : ∀ a0 a1 a2 a3 k, LeO (tripartiteref08_line.f k a0 a1 a2 a3) (tripartiteref08_line.f (k + 1) a0 a1 a2 a3) := by
 intro a0 a1 a2 a3 k
 unfold tripartiteref08_line.f
 repeat' first
   | (with_reducible exact tripartiteref08_repeat.mono _ _ _)
   | (with_reducible exact LeO.refl _)
   | (with_reducible exact LeO.none _)
   | (with_reducible refine LeO.ite ?_ ?_)
   | (with_reducible refine LeO.bind ?_ (fun _ => ?_))
   | exact tripartiteref08_repeat.mono _ _ _
   | exact LeO.none _
   | refine LeO.ite ?_ ?_
   | refine LeO.bind ?_ (fun _ => ?_)
set_option maxHeartbeats 8000000 in
set_option maxRecDepth 100000 in
theorem tripartiteref08_line.calls (k : Nat) (a0_0 : Int) (a0_1 : Bool) (a0_2 : ByteArray) (a1 : Int) (r : ByteArray) (w : World) (h : tripartiteref08_line.f k a0_0 a0_1 a0_2 a1 = some r) :
  Calls Try.prog 94 #[.agg #[.int .u8 a0_0, .bool a0_1, .string a0_2], .int .i64 a1] w fun e w' => e = .returned (.string r) ∧ Below w.heap.size w w' := by
 have hu60 := Try.underlying60
 have HB := Aside0.mk (Below.refl w.heap.size w)
 have H : ((tripartiteref08_repeat.f k a0_0 a1).bind fun t394 => (if a0_1 = true then (if t394.size + 1 ≤ 9223372036854775807 then (if a0_2.toList = ([] : List UInt8) then (if (t394 ++ (⟨#[33]⟩ : ByteArray)).size + 1 ≤ 9223372036854775807 then (some ((t394 ++ (⟨#[33]⟩ : ByteArray)) ++ (⟨#[10]⟩ : ByteArray))) else (none)) else (if (t394 ++ (⟨#[33]⟩ : ByteArray)).size + 1 ≤ 9223372036854775807 then (if ((t394 ++ (⟨#[33]⟩ : ByteArray)) ++ (⟨#[32]⟩ : ByteArray)).size + a0_2.size ≤ 9223372036854775807 then (if (((t394 ++ (⟨#[33]⟩ : ByteArray)) ++ (⟨#[32]⟩ : ByteArray)) ++ a0_2).size + 1 ≤ 9223372036854775807 then (some ((((t394 ++ (⟨#[33]⟩ : ByteArray)) ++ (⟨#[32]⟩ : ByteArray)) ++ a0_2) ++ (⟨#[10]⟩ : ByteArray))) else (none)) else (none)) else (none))) else (none)) else (if a0_2.toList = ([] : List UInt8) then (if t394.size + 1 ≤ 9223372036854775807 then (some (t394 ++ (⟨#[10]⟩ : ByteArray))) else (none)) else (if t394.size + 1 ≤ 9223372036854775807 then (if (t394 ++ (⟨#[32]⟩ : ByteArray)).size + a0_2.size ≤ 9223372036854775807 then (if ((t394 ++ (⟨#[32]⟩ : ByteArray)) ++ a0_2).size + 1 ≤ 9223372036854775807 then (some (((t394 ++ (⟨#[32]⟩ : ByteArray)) ++ a0_2) ++ (⟨#[10]⟩ : ByteArray))) else (none)) else (none)) else (none))))) = some r := h
 clear h
 replace H := Option.bind_eq_some_iff.mp H
 obtain ⟨t394, A30, H⟩ := H
 replace H : (if a0_1 = true then (if t394.size + 1 ≤ 9223372036854775807 then (if a0_2.toList = ([] : List UInt8) then (if (t394 ++ (⟨#[33]⟩ : ByteArray)).size + 1 ≤ 9223372036854775807 then (some ((t394 ++ (⟨#[33]⟩ : ByteArray)) ++ (⟨#[10]⟩ : ByteArray))) else (none)) else (if (t394 ++ (⟨#[33]⟩ : ByteArray)).size + 1 ≤ 9223372036854775807 then (if ((t394 ++ (⟨#[33]⟩ : ByteArray)) ++ (⟨#[32]⟩ : ByteArray)).size + a0_2.size ≤ 9223372036854775807 then (if (((t394 ++ (⟨#[33]⟩ : ByteArray)) ++ (⟨#[32]⟩ : ByteArray)) ++ a0_2).size + 1 ≤ 9223372036854775807 then (some ((((t394 ++ (⟨#[33]⟩ : ByteArray)) ++ (⟨#[32]⟩ : ByteArray)) ++ a0_2) ++ (⟨#[10]⟩ : ByteArray))) else (none)) else (none)) else (none))) else (none)) else (if a0_2.toList = ([] : List UInt8) then (if t394.size + 1 ≤ 9223372036854775807 then (some (t394 ++ (⟨#[10]⟩ : ByteArray))) else (none)) else (if t394.size + 1 ≤ 9223372036854775807 then (if (t394 ++ (⟨#[32]⟩ : ByteArray)).size + a0_2.size ≤ 9223372036854775807 then (if ((t394 ++ (⟨#[32]⟩ : ByteArray)) ++ a0_2).size + 1 ≤ 9223372036854775807 then (some (((t394 ++ (⟨#[32]⟩ : ByteArray)) ++ a0_2) ++ (⟨#[10]⟩ : ByteArray))) else (none)) else (none)) else (none)))) = some r := H
 have A3 := Aside0.mk A30
 clear A30
 by_cases c4 : a0_1 = true
 ·subst c4
  have H1 : (if t394.size + 1 ≤ 9223372036854775807 then (if a0_2.toList = ([] : List UInt8) then (if (t394 ++ (⟨#[33]⟩ : ByteArray)).size + 1 ≤ 9223372036854775807 then (some ((t394 ++ (⟨#[33]⟩ : ByteArray)) ++ (⟨#[10]⟩ : ByteArray))) else (none)) else (if (t394 ++ (⟨#[33]⟩ : ByteArray)).size + 1 ≤ 9223372036854775807 then (if ((t394 ++ (⟨#[33]⟩ : ByteArray)) ++ (⟨#[32]⟩ : ByteArray)).size + a0_2.size ≤ 9223372036854775807 then (if (((t394 ++ (⟨#[33]⟩ : ByteArray)) ++ (⟨#[32]⟩ : ByteArray)) ++ a0_2).size + 1 ≤ 9223372036854775807 then (some ((((t394 ++ (⟨#[33]⟩ : ByteArray)) ++ (⟨#[32]⟩ : ByteArray)) ++ a0_2) ++ (⟨#[10]⟩ : ByteArray))) else (none)) else (none)) else (none))) else (none)) = some r := by rw [if_pos rfl] at H; exact H
  clear H
  have H := H1
  clear H1
  by_cases c5 : t394.size + 1 ≤ 9223372036854775807
  ·rw [if_pos c5] at H
   have c5b0 := eq_true c5
   have c5b1 : decide (t394.size + 1 ≤ 9223372036854775807) = true := decide_eq_true c5
   try have c5b2 : (9223372036854775807 < t394.size + 1) = False := eq_false (Nat.not_lt.2 c5)
   by_cases c6 : a0_2.toList = ([] : List UInt8)
   ·rw [if_pos c6] at H
    have c6b0 : (a0_2.toList == ([] : List UInt8)) = true := beq_iff_eq.mpr c6
    have c6b1 : (a0_2.toList != ([] : List UInt8)) = false := bne_eq_false_iff_eq.mpr c6
    clear c6
    by_cases c7 : (t394 ++ (⟨#[33]⟩ : ByteArray)).size + 1 ≤ 9223372036854775807
    ·rw [if_pos c7] at H
     have c7b0 := eq_true c7
     have c7b1 : decide ((t394 ++ (⟨#[33]⟩ : ByteArray)).size + 1 ≤ 9223372036854775807) = true := decide_eq_true c7
     try have c7b2 : (9223372036854775807 < (t394 ++ (⟨#[33]⟩ : ByteArray)).size + 1) = False := eq_false (Nat.not_lt.2 c7)
     try have c7b3 : (9223372036854775807 < t394.size + 1 + 1) = False := eq_false (Nat.not_lt.2 (Nat.le_trans (Nat.le_of_eq (by first | rfl | (simp only [ByteArray.size_append]; done) | (simp only [ByteArray.size_append]; rfl))) c7))
     obtain rfl := Option.some.inj H
     go_enter Try.func94, Try.ntmps94
     go_wp2_with (first | ((with_reducible refine gate_dst (N := 2) rfl ?_); refine box_event ?hg (N := 2) ?hd (cs := #[.int .u8 a0_0, .bool true, .string a0_2]) (t := 60) ?hr ?_; (case hd => rfl); (case hg => rfl); (case hr => first | (go_simp; done) | (go_simp; rfl)); intro gb393 hg w8 hbox hb; have n0_ := Aside0.mk (below_step (by repeat (first | (with_reducible first | exact HB.out | apply below_alloc | apply pw_below_drewN | apply below_drew1) | exact HB.out)) hb); have n1_ := Aside0.mk (hbox); have n2_ := Aside0.mk ((by rw [hg]; exact (below_size (by repeat (first | (with_reducible first | exact HB.out | apply below_alloc | apply pw_below_drewN | apply below_drew1) | exact HB.out))) : w.heap.size ≤ gb393)); have n3_ := Aside0.mk ((by rw [hg]; exact (below_size (by repeat (first | (with_reducible first | exact HB.out | apply below_alloc | apply pw_below_drewN | apply below_drew1) | exact HB.out))) : w.heap.size ≤ gb393)); clear HB; have HB := n0_; have BK393 := n1_; have GW393 := n2_; have GE393 := n3_; clear n0_ n1_ n2_ n3_; clear hb hbox hg; have hcz9_0 : w8.cell? ⟨gb393, 0, none⟩ = some (.int .u8 a0_0) := (blk_cell BK393.out 0).trans rfl; have hcz9_1 : w8.cell? ⟨gb393, 1, none⟩ = some (.bool true) := (blk_cell BK393.out 1).trans rfl; have hcz9_2 : w8.cell? ⟨gb393, 2, none⟩ = some (.string a0_2) := (blk_cell BK393.out 2).trans rfl; have hfz9_0 := blk_frozen BK393.out 0; have hfz9_1 := blk_frozen BK393.out 1; have hfz9_2 := blk_frozen BK393.out 2) | ((with_reducible refine gate_callee (f := 128) rfl ?_); refine goesL_ (some 9) rfl rfl Try.func128 (by kernel_rfl) rfl #[.int .u8 a0_0, .int .i64 a1] rfl (by (try simp only [List.map_toArray, List.map_cons, List.map_nil]); first | done | rfl | (simp only [List.length_drop, List.length_take]; rfl)) ?_; (with_reducible refine (tripartiteref08_repeat.calls k a0_0 a1 t394 _ A3.out).mono ?_); rintro e w10 ⟨rfl, hb⟩; refine ⟨_, rfl, ?_⟩; have n0_ := Aside0.mk (blk_below (g := gb393) (o := .cells #[.int .u8 a0_0, .bool true, .string a0_2] 60 (0, 0)) (by (with_reducible repeat (first | refine blk_drewN ?_ _ | refine blk_drew ?_ | refine blk_alloc ?_ _)); exact BK393.out) hb); have n1_ := Aside0.mk (below_step (by repeat (first | (with_reducible first | exact HB.out | apply below_alloc | apply pw_below_drewN | apply below_drew1 | refine below_set ?_ GE393.out) | exact HB.out)) hb); clear BK393; clear HB; have BK393 := n0_; have HB := n1_; clear n0_ n1_; (try clear hb); (try clear hb2); (try clear hk); (try clear hi); have hcz11_0 : w10.cell? ⟨gb393, 0, none⟩ = some (.int .u8 a0_0) := (blk_cell BK393.out 0).trans rfl; have hcz11_1 : w10.cell? ⟨gb393, 1, none⟩ = some (.bool true) := (blk_cell BK393.out 1).trans rfl; have hcz11_2 : w10.cell? ⟨gb393, 2, none⟩ = some (.string a0_2) := (blk_cell BK393.out 2).trans rfl; have hfz11_0 := blk_frozen BK393.out 0; have hfz11_1 := blk_frozen BK393.out 1; have hfz11_2 := blk_frozen BK393.out 2))
     go_ret
     exact ⟨by first | rfl | (simp [errW_none, errW_some] <;> rfl) | (simp [*, errW_none, errW_some] <;> rfl), by repeat (first | (with_reducible first | exact HB.out | apply below_alloc | apply pw_below_drewN | apply below_drew1 | refine below_set ?_ GE393.out) | exact HB.out)⟩
    ·rw [if_neg c7] at H
     exact absurd H (by simp)
   ·rw [if_neg c6] at H
    have c6b0 : (a0_2.toList == ([] : List UInt8)) = false := beq_eq_false_iff_ne.mpr c6
    have c6b1 : (a0_2.toList != ([] : List UInt8)) = true := bne_iff_ne.mpr c6
    by_cases c12 : (t394 ++ (⟨#[33]⟩ : ByteArray)).size + 1 ≤ 9223372036854775807
    ·rw [if_pos c12] at H
     have c12b0 := eq_true c12
     have c12b1 : decide ((t394 ++ (⟨#[33]⟩ : ByteArray)).size + 1 ≤ 9223372036854775807) = true := decide_eq_true c12
     try have c12b2 : (9223372036854775807 < (t394 ++ (⟨#[33]⟩ : ByteArray)).size + 1) = False := eq_false (Nat.not_lt.2 c12)
     try have c12b3 : (9223372036854775807 < t394.size + 1 + 1) = False := eq_false (Nat.not_lt.2 (Nat.le_trans (Nat.le_of_eq (by first | rfl | (simp only [ByteArray.size_append]; done) | (simp only [ByteArray.size_append]; rfl))) c12))
     by_cases c13 : ((t394 ++ (⟨#[33]⟩ : ByteArray)) ++ (⟨#[32]⟩ : ByteArray)).size + a0_2.size ≤ 9223372036854775807
     ·rw [if_pos c13] at H
      have c13b0 := eq_true c13
      have c13b1 : decide (((t394 ++ (⟨#[33]⟩ : ByteArray)) ++ (⟨#[32]⟩ : ByteArray)).size + a0_2.size ≤ 9223372036854775807) = true := decide_eq_true c13
      try have c13b2 : (9223372036854775807 < ((t394 ++ (⟨#[33]⟩ : ByteArray)) ++ (⟨#[32]⟩ : ByteArray)).size + a0_2.size) = False := eq_false (Nat.not_lt.2 c13)
      try have c13b3 : (9223372036854775807 < t394.size + 1 + 1 + a0_2.size) = False := eq_false (Nat.not_lt.2 (Nat.le_trans (Nat.le_of_eq (by first | rfl | (simp only [ByteArray.size_append]; done) | (simp only [ByteArray.size_append]; rfl))) c13))
      by_cases c14 : (((t394 ++ (⟨#[33]⟩ : ByteArray)) ++ (⟨#[32]⟩ : ByteArray)) ++ a0_2).size + 1 ≤ 9223372036854775807
      ·rw [if_pos c14] at H
       have c14b0 := eq_true c14
       have c14b1 : decide ((((t394 ++ (⟨#[33]⟩ : ByteArray)) ++ (⟨#[32]⟩ : ByteArray)) ++ a0_2).size + 1 ≤ 9223372036854775807) = true := decide_eq_true c14
       try have c14b2 : (9223372036854775807 < (((t394 ++ (⟨#[33]⟩ : ByteArray)) ++ (⟨#[32]⟩ : ByteArray)) ++ a0_2).size + 1) = False := eq_false (Nat.not_lt.2 c14)
       try have c14b3 : (9223372036854775807 < t394.size + 1 + 1 + a0_2.size + 1) = False := eq_false (Nat.not_lt.2 (Nat.le_trans (Nat.le_of_eq (by first | rfl | (simp only [ByteArray.size_append]; done) | (simp only [ByteArray.size_append]; rfl))) c14))
       obtain rfl := Option.some.inj H
       go_enter Try.func94, Try.ntmps94
       go_wp2_with (first | ((with_reducible refine gate_dst (N := 2) rfl ?_); refine box_event ?hg (N := 2) ?hd (cs := #[.int .u8 a0_0, .bool true, .string a0_2]) (t := 60) ?hr ?_; (case hd => rfl); (case hg => rfl); (case hr => first | (go_simp; done) | (go_simp; rfl)); intro gb393 hg w15 hbox hb; have n0_ := Aside0.mk (below_step (by repeat (first | (with_reducible first | exact HB.out | apply below_alloc | apply pw_below_drewN | apply below_drew1) | exact HB.out)) hb); have n1_ := Aside0.mk (hbox); have n2_ := Aside0.mk ((by rw [hg]; exact (below_size (by repeat (first | (with_reducible first | exact HB.out | apply below_alloc | apply pw_below_drewN | apply below_drew1) | exact HB.out))) : w.heap.size ≤ gb393)); have n3_ := Aside0.mk ((by rw [hg]; exact (below_size (by repeat (first | (with_reducible first | exact HB.out | apply below_alloc | apply pw_below_drewN | apply below_drew1) | exact HB.out))) : w.heap.size ≤ gb393)); clear HB; have HB := n0_; have BK393 := n1_; have GW393 := n2_; have GE393 := n3_; clear n0_ n1_ n2_ n3_; clear hb hbox hg; have hcz16_0 : w15.cell? ⟨gb393, 0, none⟩ = some (.int .u8 a0_0) := (blk_cell BK393.out 0).trans rfl; have hcz16_1 : w15.cell? ⟨gb393, 1, none⟩ = some (.bool true) := (blk_cell BK393.out 1).trans rfl; have hcz16_2 : w15.cell? ⟨gb393, 2, none⟩ = some (.string a0_2) := (blk_cell BK393.out 2).trans rfl; have hfz16_0 := blk_frozen BK393.out 0; have hfz16_1 := blk_frozen BK393.out 1; have hfz16_2 := blk_frozen BK393.out 2) | ((with_reducible refine gate_callee (f := 128) rfl ?_); refine goesL_ (some 9) rfl rfl Try.func128 (by kernel_rfl) rfl #[.int .u8 a0_0, .int .i64 a1] rfl (by (try simp only [List.map_toArray, List.map_cons, List.map_nil]); first | done | rfl | (simp only [List.length_drop, List.length_take]; rfl)) ?_; (with_reducible refine (tripartiteref08_repeat.calls k a0_0 a1 t394 _ A3.out).mono ?_); rintro e w17 ⟨rfl, hb⟩; refine ⟨_, rfl, ?_⟩; have n0_ := Aside0.mk (blk_below (g := gb393) (o := .cells #[.int .u8 a0_0, .bool true, .string a0_2] 60 (0, 0)) (by (with_reducible repeat (first | refine blk_drewN ?_ _ | refine blk_drew ?_ | refine blk_alloc ?_ _)); exact BK393.out) hb); have n1_ := Aside0.mk (below_step (by repeat (first | (with_reducible first | exact HB.out | apply below_alloc | apply pw_below_drewN | apply below_drew1 | refine below_set ?_ GE393.out) | exact HB.out)) hb); clear BK393; clear HB; have BK393 := n0_; have HB := n1_; clear n0_ n1_; (try clear hb); (try clear hb2); (try clear hk); (try clear hi); have hcz18_0 : w17.cell? ⟨gb393, 0, none⟩ = some (.int .u8 a0_0) := (blk_cell BK393.out 0).trans rfl; have hcz18_1 : w17.cell? ⟨gb393, 1, none⟩ = some (.bool true) := (blk_cell BK393.out 1).trans rfl; have hcz18_2 : w17.cell? ⟨gb393, 2, none⟩ = some (.string a0_2) := (blk_cell BK393.out 2).trans rfl; have hfz18_0 := blk_frozen BK393.out 0; have hfz18_1 := blk_frozen BK393.out 1; have hfz18_2 := blk_frozen BK393.out 2))
       go_ret
       exact ⟨by first | rfl | (simp [errW_none, errW_some] <;> rfl) | (simp [*, errW_none, errW_some] <;> rfl), by repeat (first | (with_reducible first | exact HB.out | apply below_alloc | apply pw_below_drewN | apply below_drew1 | refine below_set ?_ GE393.out) | exact HB.out)⟩
      ·rw [if_neg c14] at H
       exact absurd H (by simp)
     ·rw [if_neg c13] at H
      exact absurd H (by simp)
    ·rw [if_neg c12] at H
     exact absurd H (by simp)
  ·rw [if_neg c5] at H
   exact absurd H (by simp)
 ·replace c4 := Bool.eq_false_iff.mpr c4
  subst c4
  have H1 : (if a0_2.toList = ([] : List UInt8) then (if t394.size + 1 ≤ 9223372036854775807 then (some (t394 ++ (⟨#[10]⟩ : ByteArray))) else (none)) else (if t394.size + 1 ≤ 9223372036854775807 then (if (t394 ++ (⟨#[32]⟩ : ByteArray)).size + a0_2.size ≤ 9223372036854775807 then (if ((t394 ++ (⟨#[32]⟩ : ByteArray)) ++ a0_2).size + 1 ≤ 9223372036854775807 then (some (((t394 ++ (⟨#[32]⟩ : ByteArray)) ++ a0_2) ++ (⟨#[10]⟩ : ByteArray))) else (none)) else (none)) else (none))) = some r := by rw [if_neg (show ¬ (false = true) by decide)] at H; exact H
  clear H
  have H := H1
  clear H1
  by_cases c19 : a0_2.toList = ([] : List UInt8)
  ·rw [if_pos c19] at H
   have c19b0 : (a0_2.toList == ([] : List UInt8)) = true := beq_iff_eq.mpr c19
   have c19b1 : (a0_2.toList != ([] : List UInt8)) = false := bne_eq_false_iff_eq.mpr c19
   clear c19
   by_cases c20 : t394.size + 1 ≤ 9223372036854775807
   ·rw [if_pos c20] at H
    have c20b0 := eq_true c20
    have c20b1 : decide (t394.size + 1 ≤ 9223372036854775807) = true := decide_eq_true c20
    try have c20b2 : (9223372036854775807 < t394.size + 1) = False := eq_false (Nat.not_lt.2 c20)
    obtain rfl := Option.some.inj H
    go_enter Try.func94, Try.ntmps94
    go_wp2_with (first | ((with_reducible refine gate_dst (N := 2) rfl ?_); refine box_event ?hg (N := 2) ?hd (cs := #[.int .u8 a0_0, .bool false, .string a0_2]) (t := 60) ?hr ?_; (case hd => rfl); (case hg => rfl); (case hr => first | (go_simp; done) | (go_simp; rfl)); intro gb393 hg w21 hbox hb; have n0_ := Aside0.mk (below_step (by repeat (first | (with_reducible first | exact HB.out | apply below_alloc | apply pw_below_drewN | apply below_drew1) | exact HB.out)) hb); have n1_ := Aside0.mk (hbox); have n2_ := Aside0.mk ((by rw [hg]; exact (below_size (by repeat (first | (with_reducible first | exact HB.out | apply below_alloc | apply pw_below_drewN | apply below_drew1) | exact HB.out))) : w.heap.size ≤ gb393)); have n3_ := Aside0.mk ((by rw [hg]; exact (below_size (by repeat (first | (with_reducible first | exact HB.out | apply below_alloc | apply pw_below_drewN | apply below_drew1) | exact HB.out))) : w.heap.size ≤ gb393)); clear HB; have HB := n0_; have BK393 := n1_; have GW393 := n2_; have GE393 := n3_; clear n0_ n1_ n2_ n3_; clear hb hbox hg; have hcz22_0 : w21.cell? ⟨gb393, 0, none⟩ = some (.int .u8 a0_0) := (blk_cell BK393.out 0).trans rfl; have hcz22_1 : w21.cell? ⟨gb393, 1, none⟩ = some (.bool false) := (blk_cell BK393.out 1).trans rfl; have hcz22_2 : w21.cell? ⟨gb393, 2, none⟩ = some (.string a0_2) := (blk_cell BK393.out 2).trans rfl; have hfz22_0 := blk_frozen BK393.out 0; have hfz22_1 := blk_frozen BK393.out 1; have hfz22_2 := blk_frozen BK393.out 2) | ((with_reducible refine gate_callee (f := 128) rfl ?_); refine goesL_ (some 9) rfl rfl Try.func128 (by kernel_rfl) rfl #[.int .u8 a0_0, .int .i64 a1] rfl (by (try simp only [List.map_toArray, List.map_cons, List.map_nil]); first | done | rfl | (simp only [List.length_drop, List.length_take]; rfl)) ?_; (with_reducible refine (tripartiteref08_repeat.calls k a0_0 a1 t394 _ A3.out).mono ?_); rintro e w23 ⟨rfl, hb⟩; refine ⟨_, rfl, ?_⟩; have n0_ := Aside0.mk (blk_below (g := gb393) (o := .cells #[.int .u8 a0_0, .bool false, .string a0_2] 60 (0, 0)) (by (with_reducible repeat (first | refine blk_drewN ?_ _ | refine blk_drew ?_ | refine blk_alloc ?_ _)); exact BK393.out) hb); have n1_ := Aside0.mk (below_step (by repeat (first | (with_reducible first | exact HB.out | apply below_alloc | apply pw_below_drewN | apply below_drew1 | refine below_set ?_ GE393.out) | exact HB.out)) hb); clear BK393; clear HB; have BK393 := n0_; have HB := n1_; clear n0_ n1_; (try clear hb); (try clear hb2); (try clear hk); (try clear hi); have hcz24_0 : w23.cell? ⟨gb393, 0, none⟩ = some (.int .u8 a0_0) := (blk_cell BK393.out 0).trans rfl; have hcz24_1 : w23.cell? ⟨gb393, 1, none⟩ = some (.bool false) := (blk_cell BK393.out 1).trans rfl; have hcz24_2 : w23.cell? ⟨gb393, 2, none⟩ = some (.string a0_2) := (blk_cell BK393.out 2).trans rfl; have hfz24_0 := blk_frozen BK393.out 0; have hfz24_1 := blk_frozen BK393.out 1; have hfz24_2 := blk_frozen BK393.out 2))
    go_ret
    exact ⟨by first | rfl | (simp [errW_none, errW_some] <;> rfl) | (simp [*, errW_none, errW_some] <;> rfl), by repeat (first | (with_reducible first | exact HB.out | apply below_alloc | apply pw_below_drewN | apply below_drew1 | refine below_set ?_ GE393.out) | exact HB.out)⟩
   ·rw [if_neg c20] at H
    exact absurd H (by simp)
  ·rw [if_neg c19] at H
   have c19b0 : (a0_2.toList == ([] : List UInt8)) = false := beq_eq_false_iff_ne.mpr c19
   have c19b1 : (a0_2.toList != ([] : List UInt8)) = true := bne_iff_ne.mpr c19
   by_cases c25 : t394.size + 1 ≤ 9223372036854775807
   ·rw [if_pos c25] at H
    have c25b0 := eq_true c25
    have c25b1 : decide (t394.size + 1 ≤ 9223372036854775807) = true := decide_eq_true c25
    try have c25b2 : (9223372036854775807 < t394.size + 1) = False := eq_false (Nat.not_lt.2 c25)
    by_cases c26 : (t394 ++ (⟨#[32]⟩ : ByteArray)).size + a0_2.size ≤ 9223372036854775807
    ·rw [if_pos c26] at H
     have c26b0 := eq_true c26
     have c26b1 : decide ((t394 ++ (⟨#[32]⟩ : ByteArray)).size + a0_2.size ≤ 9223372036854775807) = true := decide_eq_true c26
     try have c26b2 : (9223372036854775807 < (t394 ++ (⟨#[32]⟩ : ByteArray)).size + a0_2.size) = False := eq_false (Nat.not_lt.2 c26)
     try have c26b3 : (9223372036854775807 < t394.size + 1 + a0_2.size) = False := eq_false (Nat.not_lt.2 (Nat.le_trans (Nat.le_of_eq (by first | rfl | (simp only [ByteArray.size_append]; done) | (simp only [ByteArray.size_append]; rfl))) c26))
     by_cases c27 : ((t394 ++ (⟨#[32]⟩ : ByteArray)) ++ a0_2).size + 1 ≤ 9223372036854775807
     ·rw [if_pos c27] at H
      have c27b0 := eq_true c27
      have c27b1 : decide (((t394 ++ (⟨#[32]⟩ : ByteArray)) ++ a0_2).size + 1 ≤ 9223372036854775807) = true := decide_eq_true c27
      try have c27b2 : (9223372036854775807 < ((t394 ++ (⟨#[32]⟩ : ByteArray)) ++ a0_2).size + 1) = False := eq_false (Nat.not_lt.2 c27)
      try have c27b3 : (9223372036854775807 < t394.size + 1 + a0_2.size + 1) = False := eq_false (Nat.not_lt.2 (Nat.le_trans (Nat.le_of_eq (by first | rfl | (simp only [ByteArray.size_append]; done) | (simp only [ByteArray.size_append]; rfl))) c27))
      obtain rfl := Option.some.inj H
      go_enter Try.func94, Try.ntmps94
      go_wp2_with (first | ((with_reducible refine gate_dst (N := 2) rfl ?_); refine box_event ?hg (N := 2) ?hd (cs := #[.int .u8 a0_0, .bool false, .string a0_2]) (t := 60) ?hr ?_; (case hd => rfl); (case hg => rfl); (case hr => first | (go_simp; done) | (go_simp; rfl)); intro gb393 hg w28 hbox hb; have n0_ := Aside0.mk (below_step (by repeat (first | (with_reducible first | exact HB.out | apply below_alloc | apply pw_below_drewN | apply below_drew1) | exact HB.out)) hb); have n1_ := Aside0.mk (hbox); have n2_ := Aside0.mk ((by rw [hg]; exact (below_size (by repeat (first | (with_reducible first | exact HB.out | apply below_alloc | apply pw_below_drewN | apply below_drew1) | exact HB.out))) : w.heap.size ≤ gb393)); have n3_ := Aside0.mk ((by rw [hg]; exact (below_size (by repeat (first | (with_reducible first | exact HB.out | apply below_alloc | apply pw_below_drewN | apply below_drew1) | exact HB.out))) : w.heap.size ≤ gb393)); clear HB; have HB := n0_; have BK393 := n1_; have GW393 := n2_; have GE393 := n3_; clear n0_ n1_ n2_ n3_; clear hb hbox hg; have hcz29_0 : w28.cell? ⟨gb393, 0, none⟩ = some (.int .u8 a0_0) := (blk_cell BK393.out 0).trans rfl; have hcz29_1 : w28.cell? ⟨gb393, 1, none⟩ = some (.bool false) := (blk_cell BK393.out 1).trans rfl; have hcz29_2 : w28.cell? ⟨gb393, 2, none⟩ = some (.string a0_2) := (blk_cell BK393.out 2).trans rfl; have hfz29_0 := blk_frozen BK393.out 0; have hfz29_1 := blk_frozen BK393.out 1; have hfz29_2 := blk_frozen BK393.out 2) | ((with_reducible refine gate_callee (f := 128) rfl ?_); refine goesL_ (some 9) rfl rfl Try.func128 (by kernel_rfl) rfl #[.int .u8 a0_0, .int .i64 a1] rfl (by (try simp only [List.map_toArray, List.map_cons, List.map_nil]); first | done | rfl | (simp only [List.length_drop, List.length_take]; rfl)) ?_; (with_reducible refine (tripartiteref08_repeat.calls k a0_0 a1 t394 _ A3.out).mono ?_); rintro e w30 ⟨rfl, hb⟩; refine ⟨_, rfl, ?_⟩; have n0_ := Aside0.mk (blk_below (g := gb393) (o := .cells #[.int .u8 a0_0, .bool false, .string a0_2] 60 (0, 0)) (by (with_reducible repeat (first | refine blk_drewN ?_ _ | refine blk_drew ?_ | refine blk_alloc ?_ _)); exact BK393.out) hb); have n1_ := Aside0.mk (below_step (by repeat (first | (with_reducible first | exact HB.out | apply below_alloc | apply pw_below_drewN | apply below_drew1 | refine below_set ?_ GE393.out) | exact HB.out)) hb); clear BK393; clear HB; have BK393 := n0_; have HB := n1_; clear n0_ n1_; (try clear hb); (try clear hb2); (try clear hk); (try clear hi); have hcz31_0 : w30.cell? ⟨gb393, 0, none⟩ = some (.int .u8 a0_0) := (blk_cell BK393.out 0).trans rfl; have hcz31_1 : w30.cell? ⟨gb393, 1, none⟩ = some (.bool false) := (blk_cell BK393.out 1).trans rfl; have hcz31_2 : w30.cell? ⟨gb393, 2, none⟩ = some (.string a0_2) := (blk_cell BK393.out 2).trans rfl; have hfz31_0 := blk_frozen BK393.out 0; have hfz31_1 := blk_frozen BK393.out 1; have hfz31_2 := blk_frozen BK393.out 2))
      go_ret
      exact ⟨by first | rfl | (simp [errW_none, errW_some] <;> rfl) | (simp [*, errW_none, errW_some] <;> rfl), by repeat (first | (with_reducible first | exact HB.out | apply below_alloc | apply pw_below_drewN | apply below_drew1 | refine below_set ?_ GE393.out) | exact HB.out)⟩
     ·rw [if_neg c27] at H
      exact absurd H (by simp)
    ·rw [if_neg c26] at H
     exact absurd H (by simp)
   ·rw [if_neg c25] at H
    exact absurd H (by simp)
end Go.Proofs.Ytfiamddinkokbaa.F
