/- Texts joined into one file (wip/tools/pack.py): Fn127 -/
import Derived.Test.YtfiamddinkokbaaPB3
import Derived.Test.YtfiamddinkokbaaPB6
set_option linter.unusedVariables false
set_option linter.unusedSimpArgs false
namespace Go.Proofs.Ytfiamddinkokbaa.F
open Go.RowKit Go.Proofs.YtfiamddinkokbaaW.PrintWords Go.Proofs.YtfiamddinkokbaaW.PrintLast Go.Proofs.YtfiamddinkokbaaW.PrintMore
attribute [local go_sem] max2_int min2_int max_two min_two max_three min_three max_four min_four
def tripartiteref07_Plain.f (k : Nat) (a0_0 : ByteArray) (a0_1 : ByteArray) (a0_2 : ByteArray) (a0_3 : Bool) (a0_4 : ByteArray) (a0_5 : ByteArray) (a0_6 : ByteArray) (a0_7 : ByteArray) (a0_8 : Bool) : Option (Bool) := (tripartiteref07_plain.f k a0_0).bind fun t373 => (if t373 = true then ((tripartiteref07_plain.f k a0_1).bind fun t374 => (if t374 = true then ((tripartiteref07_plain.f k a0_2).bind fun t375 => (some t375)) else (some false))) else (some false))
theorem tripartiteref07_Plain.mono : ∀ a0 a1 a2 a3 a4 a5 a6 a7 a8 k, LeO (tripartiteref07_Plain.f k a0 a1 a2 a3 a4 a5 a6 a7 a8) (tripartiteref07_Plain.f (k + 1) a0 a1 a2 a3 a4 a5 a6 a7 a8) := by
 intro a0 a1 a2 a3 a4 a5 a6 a7 a8 k
 unfold tripartiteref07_Plain.f
 repeat' first
   | (with_reducible exact tripartiteref07_plain.mono _ _)
   | (with_reducible exact LeO.refl _)
   | (with_reducible exact LeO.none _)
   | (with_reducible refine LeO.ite ?_ ?_)
   | (with_reducible refine LeO.bind ?_ (fun _ => ?_))
   | exact tripartiteref07_plain.mono _ _
   | exact LeO.none _
   | refine LeO.ite ?_ ?_
   | refine LeO.bind ?_ (fun _ => ?_)
set_option maxHeartbeats 8000000 in
set_option maxRecDepth 100000 in
theorem tripartiteref07_Plain.calls (k : Nat) (a0_0 : ByteArray) (a0_1 : ByteArray) (a0_2 : ByteArray) (a0_3 : Bool) (a0_4 : ByteArray) (a0_5 : ByteArray) (a0_6 : ByteArray) (a0_7 : ByteArray) (a0_8 : Bool) (r : Bool) (w : World) (h : tripartiteref07_Plain.f k a0_0 a0_1 a0_2 a0_3 a0_4 a0_5 a0_6 a0_7 a0_8 = some r) :
  Calls Try.prog 127 #[.agg #[.string a0_0, .string a0_1, .string a0_2, .bool a0_3, .string a0_4, .string a0_5, .string a0_6, .string a0_7, .bool a0_8]] w fun e w' => e = .returned (.bool r) ∧ Below w.heap.size w w' := by
 have hu109 := Try.underlying109
 have HB := Aside0.mk (Below.refl w.heap.size w)
 have H : ((tripartiteref07_plain.f k a0_0).bind fun t373 => (if t373 = true then ((tripartiteref07_plain.f k a0_1).bind fun t374 => (if t374 = true then ((tripartiteref07_plain.f k a0_2).bind fun t375 => (some t375)) else (some false))) else (some false))) = some r := h
 clear h
 replace H := Option.bind_eq_some_iff.mp H
 obtain ⟨t373, A20, H⟩ := H
 replace H : (if t373 = true then ((tripartiteref07_plain.f k a0_1).bind fun t374 => (if t374 = true then ((tripartiteref07_plain.f k a0_2).bind fun t375 => (some t375)) else (some false))) else (some false)) = some r := H
 have A2 := Aside0.mk A20
 clear A20
 by_cases c3 : t373 = true
 ·subst c3
  have H1 : ((tripartiteref07_plain.f k a0_1).bind fun t374 => (if t374 = true then ((tripartiteref07_plain.f k a0_2).bind fun t375 => (some t375)) else (some false))) = some r := by rw [if_pos rfl] at H; exact H
  clear H
  have H := H1
  clear H1
  replace H := Option.bind_eq_some_iff.mp H
  obtain ⟨t374, A40, H⟩ := H
  replace H : (if t374 = true then ((tripartiteref07_plain.f k a0_2).bind fun t375 => (some t375)) else (some false)) = some r := H
  have A4 := Aside0.mk A40
  clear A40
  by_cases c5 : t374 = true
  ·subst c5
   have H1 : ((tripartiteref07_plain.f k a0_2).bind fun t375 => (some t375)) = some r := by rw [if_pos rfl] at H; exact H
   clear H
   have H := H1
   clear H1
   replace H := Option.bind_eq_some_iff.mp H
   obtain ⟨t375, A60, H⟩ := H
   replace H : (some t375) = some r := H
   have A6 := Aside0.mk A60
   clear A60
   obtain rfl := Option.some.inj H
   go_enter Try.func127, Try.ntmps127
   go_wp2_with (first | ((with_reducible refine gate_dst (N := 1) rfl ?_); refine box_event ?hg (N := 1) ?hd (cs := #[.string a0_0, .string a0_1, .string a0_2, .bool a0_3, .string a0_4, .string a0_5, .string a0_6, .string a0_7, .bool a0_8]) (t := 109) ?hr ?_; (case hd => rfl); (case hg => rfl); (case hr => first | (go_simp; done) | (go_simp; rfl)); intro gb372 hg w7 hbox hb; have n0_ := Aside0.mk (below_step (by repeat (first | (with_reducible first | exact HB.out | apply below_alloc | apply pw_below_drewN | apply below_drew1) | exact HB.out)) hb); have n1_ := Aside0.mk (hbox); have n2_ := Aside0.mk ((by rw [hg]; exact (below_size (by repeat (first | (with_reducible first | exact HB.out | apply below_alloc | apply pw_below_drewN | apply below_drew1) | exact HB.out))) : w.heap.size ≤ gb372)); have n3_ := Aside0.mk ((by rw [hg]; exact (below_size (by repeat (first | (with_reducible first | exact HB.out | apply below_alloc | apply pw_below_drewN | apply below_drew1) | exact HB.out))) : w.heap.size ≤ gb372)); clear HB; have HB := n0_; have BK372 := n1_; have GW372 := n2_; have GE372 := n3_; clear n0_ n1_ n2_ n3_; clear hb hbox hg; have hcz8_0 : w7.cell? ⟨gb372, 0, none⟩ = some (.string a0_0) := (blk_cell BK372.out 0).trans rfl; have hcz8_1 : w7.cell? ⟨gb372, 1, none⟩ = some (.string a0_1) := (blk_cell BK372.out 1).trans rfl; have hcz8_2 : w7.cell? ⟨gb372, 2, none⟩ = some (.string a0_2) := (blk_cell BK372.out 2).trans rfl; have hcz8_3 : w7.cell? ⟨gb372, 3, none⟩ = some (.bool a0_3) := (blk_cell BK372.out 3).trans rfl; have hcz8_4 : w7.cell? ⟨gb372, 4, none⟩ = some (.string a0_4) := (blk_cell BK372.out 4).trans rfl; have hcz8_5 : w7.cell? ⟨gb372, 5, none⟩ = some (.string a0_5) := (blk_cell BK372.out 5).trans rfl; have hcz8_6 : w7.cell? ⟨gb372, 6, none⟩ = some (.string a0_6) := (blk_cell BK372.out 6).trans rfl; have hcz8_7 : w7.cell? ⟨gb372, 7, none⟩ = some (.string a0_7) := (blk_cell BK372.out 7).trans rfl; have hcz8_8 : w7.cell? ⟨gb372, 8, none⟩ = some (.bool a0_8) := (blk_cell BK372.out 8).trans rfl; have hfz8_0 := blk_frozen BK372.out 0; have hfz8_1 := blk_frozen BK372.out 1; have hfz8_2 := blk_frozen BK372.out 2; have hfz8_3 := blk_frozen BK372.out 3; have hfz8_4 := blk_frozen BK372.out 4; have hfz8_5 := blk_frozen BK372.out 5; have hfz8_6 := blk_frozen BK372.out 6; have hfz8_7 := blk_frozen BK372.out 7; have hfz8_8 := blk_frozen BK372.out 8) | ((with_reducible refine gate_callee (f := 150) rfl ?_); refine goesL_ (some 5) rfl rfl Try.func150 (by kernel_rfl) rfl #[.string a0_0] rfl (by (try simp only [List.map_toArray, List.map_cons, List.map_nil]); first | done | rfl | (simp only [List.length_drop, List.length_take]; rfl)) ?_; (with_reducible refine (tripartiteref07_plain.calls k a0_0 true _ A2.out).mono ?_); rintro e w' ⟨rfl, ⟨nd, rfl⟩⟩; refine ⟨_, rfl, ?_⟩) | (go_at_call 150; (with_reducible refine (tripartiteref07_plain.calls k a0_1 true _ A4.out).mono ?_); rintro e w' ⟨rfl, ⟨nd, rfl⟩⟩) | (go_at_call 150; (with_reducible refine (tripartiteref07_plain.calls k a0_2 t375 _ A6.out).mono ?_); rintro e w' ⟨rfl, ⟨nd, rfl⟩⟩))
   go_ret
   exact ⟨by first | rfl | (simp [errW_none, errW_some] <;> rfl) | (simp [*, errW_none, errW_some] <;> rfl), by repeat (first | (with_reducible first | exact HB.out | apply below_alloc | apply pw_below_drewN | apply below_drew1 | refine below_set ?_ GE372.out) | exact HB.out)⟩
  ·replace c5 := Bool.eq_false_iff.mpr c5
   subst c5
   have H1 : (some false) = some r := by rw [if_neg (show ¬ (false = true) by decide)] at H; exact H
   clear H
   have H := H1
   clear H1
   obtain rfl := Option.some.inj H
   go_enter Try.func127, Try.ntmps127
   go_wp2_with (first | ((with_reducible refine gate_dst (N := 1) rfl ?_); refine box_event ?hg (N := 1) ?hd (cs := #[.string a0_0, .string a0_1, .string a0_2, .bool a0_3, .string a0_4, .string a0_5, .string a0_6, .string a0_7, .bool a0_8]) (t := 109) ?hr ?_; (case hd => rfl); (case hg => rfl); (case hr => first | (go_simp; done) | (go_simp; rfl)); intro gb372 hg w9 hbox hb; have n0_ := Aside0.mk (below_step (by repeat (first | (with_reducible first | exact HB.out | apply below_alloc | apply pw_below_drewN | apply below_drew1) | exact HB.out)) hb); have n1_ := Aside0.mk (hbox); have n2_ := Aside0.mk ((by rw [hg]; exact (below_size (by repeat (first | (with_reducible first | exact HB.out | apply below_alloc | apply pw_below_drewN | apply below_drew1) | exact HB.out))) : w.heap.size ≤ gb372)); have n3_ := Aside0.mk ((by rw [hg]; exact (below_size (by repeat (first | (with_reducible first | exact HB.out | apply below_alloc | apply pw_below_drewN | apply below_drew1) | exact HB.out))) : w.heap.size ≤ gb372)); clear HB; have HB := n0_; have BK372 := n1_; have GW372 := n2_; have GE372 := n3_; clear n0_ n1_ n2_ n3_; clear hb hbox hg; have hcz10_0 : w9.cell? ⟨gb372, 0, none⟩ = some (.string a0_0) := (blk_cell BK372.out 0).trans rfl; have hcz10_1 : w9.cell? ⟨gb372, 1, none⟩ = some (.string a0_1) := (blk_cell BK372.out 1).trans rfl; have hcz10_2 : w9.cell? ⟨gb372, 2, none⟩ = some (.string a0_2) := (blk_cell BK372.out 2).trans rfl; have hcz10_3 : w9.cell? ⟨gb372, 3, none⟩ = some (.bool a0_3) := (blk_cell BK372.out 3).trans rfl; have hcz10_4 : w9.cell? ⟨gb372, 4, none⟩ = some (.string a0_4) := (blk_cell BK372.out 4).trans rfl; have hcz10_5 : w9.cell? ⟨gb372, 5, none⟩ = some (.string a0_5) := (blk_cell BK372.out 5).trans rfl; have hcz10_6 : w9.cell? ⟨gb372, 6, none⟩ = some (.string a0_6) := (blk_cell BK372.out 6).trans rfl; have hcz10_7 : w9.cell? ⟨gb372, 7, none⟩ = some (.string a0_7) := (blk_cell BK372.out 7).trans rfl; have hcz10_8 : w9.cell? ⟨gb372, 8, none⟩ = some (.bool a0_8) := (blk_cell BK372.out 8).trans rfl; have hfz10_0 := blk_frozen BK372.out 0; have hfz10_1 := blk_frozen BK372.out 1; have hfz10_2 := blk_frozen BK372.out 2; have hfz10_3 := blk_frozen BK372.out 3; have hfz10_4 := blk_frozen BK372.out 4; have hfz10_5 := blk_frozen BK372.out 5; have hfz10_6 := blk_frozen BK372.out 6; have hfz10_7 := blk_frozen BK372.out 7; have hfz10_8 := blk_frozen BK372.out 8) | ((with_reducible refine gate_callee (f := 150) rfl ?_); refine goesL_ (some 5) rfl rfl Try.func150 (by kernel_rfl) rfl #[.string a0_0] rfl (by (try simp only [List.map_toArray, List.map_cons, List.map_nil]); first | done | rfl | (simp only [List.length_drop, List.length_take]; rfl)) ?_; (with_reducible refine (tripartiteref07_plain.calls k a0_0 true _ A2.out).mono ?_); rintro e w' ⟨rfl, ⟨nd, rfl⟩⟩; refine ⟨_, rfl, ?_⟩) | (go_at_call 150; (with_reducible refine (tripartiteref07_plain.calls k a0_1 false _ A4.out).mono ?_); rintro e w' ⟨rfl, ⟨nd, rfl⟩⟩))
   go_ret
   exact ⟨by first | rfl | (simp [errW_none, errW_some] <;> rfl) | (simp [*, errW_none, errW_some] <;> rfl), by repeat (first | (with_reducible first | exact HB.out | apply below_alloc | apply pw_below_drewN | apply below_drew1 | refine below_set ?_ GE372.out) | exact HB.out)⟩
 ·replace c3 := Bool.eq_false_iff.mpr c3
  subst c3
  have H1 : (some false) = some r := by rw [if_neg (show ¬ (false = true) by decide)] at H; exact H
  clear H
  have H := H1
  clear H1
  obtain rfl := Option.some.inj H
  go_enter Try.func127, Try.ntmps127
  go_wp2_with (first | ((with_reducible refine gate_dst (N := 1) rfl ?_); refine box_event ?hg (N := 1) ?hd (cs := #[.string a0_0, .string a0_1, .string a0_2, .bool a0_3, .string a0_4, .string a0_5, .string a0_6, .string a0_7, .bool a0_8]) (t := 109) ?hr ?_; (case hd => rfl); (case hg => rfl); (case hr => first | (go_simp; done) | (go_simp; rfl)); intro gb372 hg w11 hbox hb; have n0_ := Aside0.mk (below_step (by repeat (first | (with_reducible first | exact HB.out | apply below_alloc | apply pw_below_drewN | apply below_drew1) | exact HB.out)) hb); have n1_ := Aside0.mk (hbox); have n2_ := Aside0.mk ((by rw [hg]; exact (below_size (by repeat (first | (with_reducible first | exact HB.out | apply below_alloc | apply pw_below_drewN | apply below_drew1) | exact HB.out))) : w.heap.size ≤ gb372)); have n3_ := Aside0.mk ((by rw [hg]; exact (below_size (by repeat (first | (with_reducible first | exact HB.out | apply below_alloc | apply pw_below_drewN | apply below_drew1) | exact HB.out))) : w.heap.size ≤ gb372)); clear HB; have HB := n0_; have BK372 := n1_; have GW372 := n2_; have GE372 := n3_; clear n0_ n1_ n2_ n3_; clear hb hbox hg; have hcz12_0 : w11.cell? ⟨gb372, 0, none⟩ = some (.string a0_0) := (blk_cell BK372.out 0).trans rfl; have hcz12_1 : w11.cell? ⟨gb372, 1, none⟩ = some (.string a0_1) := (blk_cell BK372.out 1).trans rfl; have hcz12_2 : w11.cell? ⟨gb372, 2, none⟩ = some (.string a0_2) := (blk_cell BK372.out 2).trans rfl; have hcz12_3 : w11.cell? ⟨gb372, 3, none⟩ = some (.bool a0_3) := (blk_cell BK372.out 3).trans rfl; have hcz12_4 : w11.cell? ⟨gb372, 4, none⟩ = some (.string a0_4) := (blk_cell BK372.out 4).trans rfl; have hcz12_5 : w11.cell? ⟨gb372, 5, none⟩ = some (.string a0_5) := (blk_cell BK372.out 5).trans rfl; have hcz12_6 : w11.cell? ⟨gb372, 6, none⟩ = some (.string a0_6) := (blk_cell BK372.out 6).trans rfl; have hcz12_7 : w11.cell? ⟨gb372, 7, none⟩ = some (.string a0_7) := (blk_cell BK372.out 7).trans rfl; have hcz12_8 : w11.cell? ⟨gb372, 8, none⟩ = some (.bool a0_8) := (blk_cell BK372.out 8).trans rfl; have hfz12_0 := blk_frozen BK372.out 0; have hfz12_1 := blk_frozen BK372.out 1; have hfz12_2 := blk_frozen BK372.out 2; have hfz12_3 := blk_frozen BK372.out 3; have hfz12_4 := blk_frozen BK372.out 4; have hfz12_5 := blk_frozen BK372.out 5; have hfz12_6 := blk_frozen BK372.out 6; have hfz12_7 := blk_frozen BK372.out 7; have hfz12_8 := blk_frozen BK372.out 8) | ((with_reducible refine gate_callee (f := 150) rfl ?_); refine goesL_ (some 5) rfl rfl Try.func150 (by kernel_rfl) rfl #[.string a0_0] rfl (by (try simp only [List.map_toArray, List.map_cons, List.map_nil]); first | done | rfl | (simp only [List.length_drop, List.length_take]; rfl)) ?_; (with_reducible refine (tripartiteref07_plain.calls k a0_0 false _ A2.out).mono ?_); rintro e w' ⟨rfl, ⟨nd, rfl⟩⟩; refine ⟨_, rfl, ?_⟩))
  go_ret
  exact ⟨by first | rfl | (simp [errW_none, errW_some] <;> rfl) | (simp [*, errW_none, errW_some] <;> rfl), by repeat (first | (with_reducible first | exact HB.out | apply below_alloc | apply pw_below_drewN | apply below_drew1 | refine below_set ?_ GE372.out) | exact HB.out)⟩
end Go.Proofs.Ytfiamddinkokbaa.F
