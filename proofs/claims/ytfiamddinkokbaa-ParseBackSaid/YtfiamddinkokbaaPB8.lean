/- Texts joined into one file (wip/tools/pack.py): Fn91 -/
import Derived.Test.YtfiamddinkokbaaPB3
import Derived.Test.YtfiamddinkokbaaPB6
import Derived.Test.YtfiamddinkokbaaPB7
set_option linter.unusedVariables false
set_option linter.unusedSimpArgs false
namespace Go.Proofs.Ytfiamddinkokbaa.F
open Go.RowKit Go.Proofs.YtfiamddinkokbaaW.PrintWords Go.Proofs.YtfiamddinkokbaaW.PrintLast Go.Proofs.YtfiamddinkokbaaW.PrintMore
attribute [local go_sem] max2_int min2_int max_two min_two max_three min_three max_four min_four
mutual
def tripartiteref07_Right.l0 : Nat → List (S109) → Int → Option (Bool)
 | 0, _, _ => none
 | k + 1, x0, x3 => if x3 < (x0.length : Int) then (if 0 ≤ x3 then ((tripartiteref07_one.f ((rd_T109 x0 x3).f0) ((rd_T109 x0 x3).f1) ((rd_T109 x0 x3).f2) ((rd_T109 x0 x3).f3) ((rd_T109 x0 x3).f4) ((rd_T109 x0 x3).f5) ((rd_T109 x0 x3).f6) ((rd_T109 x0 x3).f7) ((rd_T109 x0 x3).f8)).bind fun t378 => (if t378 = true then ((tripartiteref07_Plain.f k ((rd_T109 x0 x3).f0) ((rd_T109 x0 x3).f1) ((rd_T109 x0 x3).f2) ((rd_T109 x0 x3).f3) ((rd_T109 x0 x3).f4) ((rd_T109 x0 x3).f5) ((rd_T109 x0 x3).f6) ((rd_T109 x0 x3).f7) ((rd_T109 x0 x3).f8)).bind fun t379 => (tripartiteref07_Right.j1 k x0 x3 (!t379) ((rd_T109 x0 x3).f0) ((rd_T109 x0 x3).f1) ((rd_T109 x0 x3).f2) ((rd_T109 x0 x3).f3) ((rd_T109 x0 x3).f4) ((rd_T109 x0 x3).f5) ((rd_T109 x0 x3).f6) ((rd_T109 x0 x3).f7) ((rd_T109 x0 x3).f8))) else (tripartiteref07_Right.j1 k x0 x3 true ((rd_T109 x0 x3).f0) ((rd_T109 x0 x3).f1) ((rd_T109 x0 x3).f2) ((rd_T109 x0 x3).f3) ((rd_T109 x0 x3).f4) ((rd_T109 x0 x3).f5) ((rd_T109 x0 x3).f6) ((rd_T109 x0 x3).f7) ((rd_T109 x0 x3).f8)))) else (none)) else (some true)
def tripartiteref07_Right.j1 : Nat → List (S109) → Int → Bool → ByteArray → ByteArray → ByteArray → Bool → ByteArray → ByteArray → ByteArray → ByteArray → Bool → Option (Bool)
 | 0, _, _, _, _, _, _, _, _, _, _, _, _ => none
 | k + 1, x0, x3, x22, x378000, x378001, x378002, x378003, x378004, x378005, x378006, x378007, x378008 => if x22 = true then (some false) else (if x378003 = true then (tripartiteref07_Right.l0 k x0 (wrap64 (x3 + 1))) else (if x378004.toList = ([] : List UInt8) then (some false) else (if x3 > 0 then (if 0 ≤ (wrap64 (x3 - 1)) then (if (wrap64 (x3 - 1)) < (x0.length : Int) then (if ((rd_T109 x0 (wrap64 (x3 - 1))).f3 = true) then (if (wrap64 (x3 + 1)) < (x0.length : Int) then ((tripartiteref01_Ends.f x378004).bind fun t381 => (if t381 = true then (tripartiteref07_Right.l0 k x0 (wrap64 (x3 + 1))) else (some false))) else (tripartiteref07_Right.l0 k x0 (wrap64 (x3 + 1)))) else (some false)) else (none)) else (none)) else (if (wrap64 (x3 + 1)) < (x0.length : Int) then ((tripartiteref01_Ends.f x378004).bind fun t382 => (if t382 = true then (tripartiteref07_Right.l0 k x0 (wrap64 (x3 + 1))) else (some false))) else (tripartiteref07_Right.l0 k x0 (wrap64 (x3 + 1)))))))
end
def tripartiteref07_Right.f (k : Nat) (l0 : List (S109)) : Option (Bool) := tripartiteref07_Right.l0 k l0 0
theorem tripartiteref07_Right.mono_l : ∀ k, (∀ y0 y1, LeO (tripartiteref07_Right.l0 k y0 y1) (tripartiteref07_Right.l0 (k + 1) y0 y1)) ∧ (∀ y0 y1 y2 y3 y4 y5 y6 y7 y8 y9 y10 y11, LeO (tripartiteref07_Right.j1 k y0 y1 y2 y3 y4 y5 y6 y7 y8 y9 y10 y11) (tripartiteref07_Right.j1 (k + 1) y0 y1 y2 y3 y4 y5 y6 y7 y8 y9 y10 y11))
 | 0 => ⟨fun _ _ r h => by simp [tripartiteref07_Right.l0] at h, fun _ _ _ _ _ _ _ _ _ _ _ _ r h => by simp [tripartiteref07_Right.j1] at h⟩
 | k + 1 => by
  obtain ⟨ih0, ih1⟩ := tripartiteref07_Right.mono_l k
  refine ⟨?_, ?_⟩
  ·intro y0 y1
   unfold tripartiteref07_Right.l0
   repeat' first
   | (with_reducible exact ih0 _ _)
   | (with_reducible exact ih1 _ _ _ _ _ _ _ _ _ _ _ _)
   | (with_reducible exact tripartiteref07_Plain.mono _ _ _ _ _ _ _ _ _ _)
   | (with_reducible exact LeO.refl _)
   | (with_reducible exact LeO.none _)
   | (with_reducible refine LeO.ite ?_ ?_)
   | (with_reducible refine LeO.bind ?_ (fun _ => ?_))
   | exact ih0 _ _
   | exact ih1 _ _ _ _ _ _ _ _ _ _ _ _
   | exact tripartiteref07_Plain.mono _ _ _ _ _ _ _ _ _ _
   | exact LeO.none _
   | refine LeO.ite ?_ ?_
   | refine LeO.bind ?_ (fun _ => ?_)
  ·intro y0 y1 y2 y3 y4 y5 y6 y7 y8 y9 y10 y11
   unfold tripartiteref07_Right.j1
   repeat' first
   | (with_reducible exact ih0 _ _)
   | (with_reducible exact ih1 _ _ _ _ _ _ _ _ _ _ _ _)
   | (with_reducible exact tripartiteref07_Plain.mono _ _ _ _ _ _ _ _ _ _)
   | (with_reducible exact LeO.refl _)
   | (with_reducible exact LeO.none _)
   | (with_reducible refine LeO.ite ?_ ?_)
   | (with_reducible refine LeO.bind ?_ (fun _ => ?_))
   | exact ih0 _ _
   | exact ih1 _ _ _ _ _ _ _ _ _ _ _ _
   | exact tripartiteref07_Plain.mono _ _ _ _ _ _ _ _ _ _
   | exact LeO.none _
   | refine LeO.ite ?_ ?_
   | refine LeO.bind ?_ (fun _ => ?_)
theorem tripartiteref07_Right.mono : ∀ a0 k, LeO (tripartiteref07_Right.f k a0) (tripartiteref07_Right.f (k + 1) a0) := by
 intro a0 k
 obtain ⟨ih0, ih1⟩ := tripartiteref07_Right.mono_l k
 unfold tripartiteref07_Right.f
 repeat' first
   | (with_reducible exact ih0 _ _)
   | (with_reducible exact ih1 _ _ _ _ _ _ _ _ _ _ _ _)
   | (with_reducible exact tripartiteref07_Plain.mono _ _ _ _ _ _ _ _ _ _)
   | (with_reducible exact LeO.refl _)
   | (with_reducible exact LeO.none _)
   | (with_reducible refine LeO.ite ?_ ?_)
   | (with_reducible refine LeO.bind ?_ (fun _ => ?_))
   | exact ih0 _ _
   | exact ih1 _ _ _ _ _ _ _ _ _ _ _ _
   | exact tripartiteref07_Plain.mono _ _ _ _ _ _ _ _ _ _
   | exact LeO.none _
   | refine LeO.ite ?_ ?_
   | refine LeO.bind ?_ (fun _ => ?_)
set_option maxHeartbeats 8000000 in
set_option maxRecDepth 100000 in
theorem tripartiteref07_Right.calls (k : Nat) (A0 : Option Addr) (c0 : Nat) (l0 : List (S109)) (r : Bool) (w : World) (hr0 : Kd.C k109 w A0 l0.length l0) (hc0 : l0.length ≤ c0) (h : tripartiteref07_Right.f k l0 = some r) :
  Calls Try.prog 91 #[.slice A0 l0.length c0] w fun e w' => e = .returned (.bool r) ∧ Below w.heap.size w w' := by
 have hu109 := Try.underlying109
 have HR0 := Aside0.mk hr0
 have HC0 := Aside0.mk hc0
 clear hr0 hc0
 have HB := Aside0.mk (Below.refl w.heap.size w)
 have H : (tripartiteref07_Right.l0 k l0 0) = some r := h
 clear h
 have H' := Aside0.mk H
 clear H
 go_enter Try.func91, Try.ntmps91
 go_wp2
 go_loopg [3] k (fun kq v3 w' => ∃ (x3_1 : Int), v3 = .int .i64 x3_1 ∧ Aside0 (tripartiteref07_Right.l0 kq l0 x3_1 = some r) ∧ Aside0 (kq ≤ k) ∧ Aside0 (Below w.heap.size w w'))
 case atStart => exact ⟨(0), (by first | rfl | (simp; done) | (simp [*]; done)), H', ⟨Nat.le_refl _⟩, ⟨by repeat (first | (with_reducible first | exact HB.out | apply below_alloc | apply pw_below_drewN | apply below_drew1) | exact HB.out)⟩⟩
 case round =>
  clear H'
  obtain ⟨x3_1, rfl, HA, HK1, HB⟩ := hrel
  cases gk with
  | zero => exact absurd HA.out (by simp [tripartiteref07_Right.l0])
  | succ k1 =>
   have H := HA.out
   clear HA
   simp only [tripartiteref07_Right.l0] at H
   by_cases c2 : x3_1 < (l0.length : Int)
   ·rw [if_pos c2] at H
    have c2b0 : decide (x3_1 < (l0.length : Int)) = true := decide_eq_true c2
    clear c2
    by_cases c3 : 0 ≤ x3_1
    ·rw [if_pos c3] at H
     have c3b0 : decide (0 ≤ x3_1) = true := decide_eq_true c3
     clear c3
     have HC4 := Aside0.mk H
     clear H
     have p376 : 0 ≤ (x3_1 : Int) := of_decide_eq_true (by first | (with_reducible assumption) | assumption)
     have q376 : x3_1 < (l0.length : Int) := of_decide_eq_true (by first | (with_reducible assumption) | assumption)
     obtain ⟨ad376, e376, hx376_0, hx376_1, hx376_2, hx376_3, hx376_4, hx376_5, hx376_6, hx376_7, hx376_8⟩ := at_T109 HR0.out x3_1 p376 q376
     cases e376
     replace hx376_0 := (HB.out.cell (World.block_lt_of_cell? w _ hx376_0)).trans hx376_0
     replace hx376_1 := (HB.out.cell (World.block_lt_of_cell? w _ hx376_1)).trans hx376_1
     replace hx376_2 := (HB.out.cell (World.block_lt_of_cell? w _ hx376_2)).trans hx376_2
     replace hx376_3 := (HB.out.cell (World.block_lt_of_cell? w _ hx376_3)).trans hx376_3
     replace hx376_4 := (HB.out.cell (World.block_lt_of_cell? w _ hx376_4)).trans hx376_4
     replace hx376_5 := (HB.out.cell (World.block_lt_of_cell? w _ hx376_5)).trans hx376_5
     replace hx376_6 := (HB.out.cell (World.block_lt_of_cell? w _ hx376_6)).trans hx376_6
     replace hx376_7 := (HB.out.cell (World.block_lt_of_cell? w _ hx376_7)).trans hx376_7
     replace hx376_8 := (HB.out.cell (World.block_lt_of_cell? w _ hx376_8)).trans hx376_8
     replace p376 := eq_true p376
     replace q376 := eq_true q376
     go_upto_region 5 with (first | ((with_reducible refine gate_dst (N := 4) rfl ?_); (try (refine gate_guard (by rfl) ?_; dsimp only)); refine box_event ?hg (N := 4) ?hd (cs := #[.string (⟨#[]⟩ : ByteArray), .string (⟨#[]⟩ : ByteArray), .string (⟨#[]⟩ : ByteArray), .bool false, .string (⟨#[]⟩ : ByteArray), .string (⟨#[]⟩ : ByteArray), .string (⟨#[]⟩ : ByteArray), .string (⟨#[]⟩ : ByteArray), .bool false]) (t := 109) ?hr ?_; (case hd => rfl); (case hg => rfl); (case hr => first | (go_simp; done) | (go_simp; rfl)); intro gb377 hg w5 hbox hb; have n0_ := Aside0.mk (below_step (by repeat (first | (with_reducible first | exact HB.out | apply below_alloc | apply pw_below_drewN | apply below_drew1) | exact HB.out)) hb); have n1_ := Aside0.mk (hbox); have n2_ := Aside0.mk ((by rw [hg]; exact (below_size (by repeat (first | (with_reducible first | exact HB.out | apply below_alloc | apply pw_below_drewN | apply below_drew1) | exact HB.out))) : w.heap.size ≤ gb377)); have n3_ := Aside0.mk ((by rw [hg]; exact (below_size (by repeat (first | (with_reducible first | exact HB.out | apply below_alloc | apply pw_below_drewN | apply below_drew1) | exact HB.out))) : w.heap.size ≤ gb377)); clear HB; have HB := n0_; have BK377 := n1_; have GW377 := n2_; have GE377 := n3_; clear n0_ n1_ n2_ n3_; clear hb hbox hg; have hcz6_0 : w5.cell? ⟨gb377, 0, none⟩ = some (.string (⟨#[]⟩ : ByteArray)) := (blk_cell BK377.out 0).trans rfl; have hcz6_1 : w5.cell? ⟨gb377, 1, none⟩ = some (.string (⟨#[]⟩ : ByteArray)) := (blk_cell BK377.out 1).trans rfl; have hcz6_2 : w5.cell? ⟨gb377, 2, none⟩ = some (.string (⟨#[]⟩ : ByteArray)) := (blk_cell BK377.out 2).trans rfl; have hcz6_3 : w5.cell? ⟨gb377, 3, none⟩ = some (.bool false) := (blk_cell BK377.out 3).trans rfl; have hcz6_4 : w5.cell? ⟨gb377, 4, none⟩ = some (.string (⟨#[]⟩ : ByteArray)) := (blk_cell BK377.out 4).trans rfl; have hcz6_5 : w5.cell? ⟨gb377, 5, none⟩ = some (.string (⟨#[]⟩ : ByteArray)) := (blk_cell BK377.out 5).trans rfl; have hcz6_6 : w5.cell? ⟨gb377, 6, none⟩ = some (.string (⟨#[]⟩ : ByteArray)) := (blk_cell BK377.out 6).trans rfl; have hcz6_7 : w5.cell? ⟨gb377, 7, none⟩ = some (.string (⟨#[]⟩ : ByteArray)) := (blk_cell BK377.out 7).trans rfl; have hcz6_8 : w5.cell? ⟨gb377, 8, none⟩ = some (.bool false) := (blk_cell BK377.out 8).trans rfl; have hfz6_0 := blk_frozen BK377.out 0; have hfz6_1 := blk_frozen BK377.out 1; have hfz6_2 := blk_frozen BK377.out 2; have hfz6_3 := blk_frozen BK377.out 3; have hfz6_4 := blk_frozen BK377.out 4; have hfz6_5 := blk_frozen BK377.out 5; have hfz6_6 := blk_frozen BK377.out 6; have hfz6_7 := blk_frozen BK377.out 7; have hfz6_8 := blk_frozen BK377.out 8))
     (try simp only [Act.put, List.setIfInBounds_toArray, List.set_cons_zero, List.set_cons_succ])
     go_cut [22] (fun v22 wc => ∃ (kq : Nat) (x22_3 : Bool), v22 = .bool x22_3 ∧ Aside0 (tripartiteref07_Right.j1 kq l0 x3_1 x22_3 ((rd_T109 l0 x3_1).f0) ((rd_T109 l0 x3_1).f1) ((rd_T109 l0 x3_1).f2) ((rd_T109 l0 x3_1).f3) ((rd_T109 l0 x3_1).f4) ((rd_T109 l0 x3_1).f5) ((rd_T109 l0 x3_1).f6) ((rd_T109 l0 x3_1).f7) ((rd_T109 l0 x3_1).f8) = some r) ∧ Aside0 (kq ≤ k1) ∧ Aside0 (wc.heap[gb377]? = some (.cells #[.string ((rd_T109 l0 x3_1).f0), .string ((rd_T109 l0 x3_1).f1), .string ((rd_T109 l0 x3_1).f2), .bool ((rd_T109 l0 x3_1).f3), .string ((rd_T109 l0 x3_1).f4), .string ((rd_T109 l0 x3_1).f5), .string ((rd_T109 l0 x3_1).f6), .string ((rd_T109 l0 x3_1).f7), .bool ((rd_T109 l0 x3_1).f8)] 109 (0, 0))) ∧ Aside0 (Below w.heap.size w wc))
     case first =>
      have H := HC4.out
      clear HC4
      replace H := Option.bind_eq_some_iff.mp H
      obtain ⟨t378, A70, H⟩ := H
      replace H : (if t378 = true then ((tripartiteref07_Plain.f k1 ((rd_T109 l0 x3_1).f0) ((rd_T109 l0 x3_1).f1) ((rd_T109 l0 x3_1).f2) ((rd_T109 l0 x3_1).f3) ((rd_T109 l0 x3_1).f4) ((rd_T109 l0 x3_1).f5) ((rd_T109 l0 x3_1).f6) ((rd_T109 l0 x3_1).f7) ((rd_T109 l0 x3_1).f8)).bind fun t379 => (tripartiteref07_Right.j1 k1 l0 x3_1 (!t379) ((rd_T109 l0 x3_1).f0) ((rd_T109 l0 x3_1).f1) ((rd_T109 l0 x3_1).f2) ((rd_T109 l0 x3_1).f3) ((rd_T109 l0 x3_1).f4) ((rd_T109 l0 x3_1).f5) ((rd_T109 l0 x3_1).f6) ((rd_T109 l0 x3_1).f7) ((rd_T109 l0 x3_1).f8))) else (tripartiteref07_Right.j1 k1 l0 x3_1 true ((rd_T109 l0 x3_1).f0) ((rd_T109 l0 x3_1).f1) ((rd_T109 l0 x3_1).f2) ((rd_T109 l0 x3_1).f3) ((rd_T109 l0 x3_1).f4) ((rd_T109 l0 x3_1).f5) ((rd_T109 l0 x3_1).f6) ((rd_T109 l0 x3_1).f7) ((rd_T109 l0 x3_1).f8))) = some r := H
      have A7 := Aside0.mk A70
      clear A70
      by_cases c8 : t378 = true
      ·subst c8
       have H1 : ((tripartiteref07_Plain.f k1 ((rd_T109 l0 x3_1).f0) ((rd_T109 l0 x3_1).f1) ((rd_T109 l0 x3_1).f2) ((rd_T109 l0 x3_1).f3) ((rd_T109 l0 x3_1).f4) ((rd_T109 l0 x3_1).f5) ((rd_T109 l0 x3_1).f6) ((rd_T109 l0 x3_1).f7) ((rd_T109 l0 x3_1).f8)).bind fun t379 => (tripartiteref07_Right.j1 k1 l0 x3_1 (!t379) ((rd_T109 l0 x3_1).f0) ((rd_T109 l0 x3_1).f1) ((rd_T109 l0 x3_1).f2) ((rd_T109 l0 x3_1).f3) ((rd_T109 l0 x3_1).f4) ((rd_T109 l0 x3_1).f5) ((rd_T109 l0 x3_1).f6) ((rd_T109 l0 x3_1).f7) ((rd_T109 l0 x3_1).f8))) = some r := by rw [if_pos rfl] at H; exact H
       clear H
       have H := H1
       clear H1
       replace H := Option.bind_eq_some_iff.mp H
       obtain ⟨t379, A90, H⟩ := H
       replace H : (tripartiteref07_Right.j1 k1 l0 x3_1 (!t379) ((rd_T109 l0 x3_1).f0) ((rd_T109 l0 x3_1).f1) ((rd_T109 l0 x3_1).f2) ((rd_T109 l0 x3_1).f3) ((rd_T109 l0 x3_1).f4) ((rd_T109 l0 x3_1).f5) ((rd_T109 l0 x3_1).f6) ((rd_T109 l0 x3_1).f7) ((rd_T109 l0 x3_1).f8)) = some r := H
       have A9 := Aside0.mk A90
       clear A90
       have H' := Aside0.mk H
       clear H
       have hcz10_0 : w5.cell? ⟨gb377, 0, none⟩ = some (.string (⟨#[]⟩ : ByteArray)) := (blk_cell BK377.out 0).trans rfl
       have hcz10_1 : w5.cell? ⟨gb377, 1, none⟩ = some (.string (⟨#[]⟩ : ByteArray)) := (blk_cell BK377.out 1).trans rfl
       have hcz10_2 : w5.cell? ⟨gb377, 2, none⟩ = some (.string (⟨#[]⟩ : ByteArray)) := (blk_cell BK377.out 2).trans rfl
       have hcz10_3 : w5.cell? ⟨gb377, 3, none⟩ = some (.bool false) := (blk_cell BK377.out 3).trans rfl
       have hcz10_4 : w5.cell? ⟨gb377, 4, none⟩ = some (.string (⟨#[]⟩ : ByteArray)) := (blk_cell BK377.out 4).trans rfl
       have hcz10_5 : w5.cell? ⟨gb377, 5, none⟩ = some (.string (⟨#[]⟩ : ByteArray)) := (blk_cell BK377.out 5).trans rfl
       have hcz10_6 : w5.cell? ⟨gb377, 6, none⟩ = some (.string (⟨#[]⟩ : ByteArray)) := (blk_cell BK377.out 6).trans rfl
       have hcz10_7 : w5.cell? ⟨gb377, 7, none⟩ = some (.string (⟨#[]⟩ : ByteArray)) := (blk_cell BK377.out 7).trans rfl
       have hcz10_8 : w5.cell? ⟨gb377, 8, none⟩ = some (.bool false) := (blk_cell BK377.out 8).trans rfl
       have hfz10_0 := blk_frozen BK377.out 0
       have hfz10_1 := blk_frozen BK377.out 1
       have hfz10_2 := blk_frozen BK377.out 2
       have hfz10_3 := blk_frozen BK377.out 3
       have hfz10_4 := blk_frozen BK377.out 4
       have hfz10_5 := blk_frozen BK377.out 5
       have hfz10_6 := blk_frozen BK377.out 6
       have hfz10_7 := blk_frozen BK377.out 7
       have hfz10_8 := blk_frozen BK377.out 8
       go_wp2_with (first | ((with_reducible refine gate_callee (f := 126) rfl ?_); refine goesL_ (some 16) rfl rfl Try.func126 (by kernel_rfl) rfl #[.agg #[.string ((rd_T109 l0 x3_1).f0), .string ((rd_T109 l0 x3_1).f1), .string ((rd_T109 l0 x3_1).f2), .bool ((rd_T109 l0 x3_1).f3), .string ((rd_T109 l0 x3_1).f4), .string ((rd_T109 l0 x3_1).f5), .string ((rd_T109 l0 x3_1).f6), .string ((rd_T109 l0 x3_1).f7), .bool ((rd_T109 l0 x3_1).f8)]] rfl (by (try simp only [List.map_toArray, List.map_cons, List.map_nil]); first | done | rfl | (simp only [List.length_drop, List.length_take]; rfl)) ?_; (with_reducible refine (tripartiteref07_one.calls ((rd_T109 l0 x3_1).f0) ((rd_T109 l0 x3_1).f1) ((rd_T109 l0 x3_1).f2) ((rd_T109 l0 x3_1).f3) ((rd_T109 l0 x3_1).f4) ((rd_T109 l0 x3_1).f5) ((rd_T109 l0 x3_1).f6) ((rd_T109 l0 x3_1).f7) ((rd_T109 l0 x3_1).f8) true _ A7.out).mono ?_); rintro e w11 ⟨rfl, hb⟩; refine ⟨_, rfl, ?_⟩; have n0_ := Aside0.mk (blk_below (g := gb377) (o := .cells #[.string ((rd_T109 l0 x3_1).f0), .string ((rd_T109 l0 x3_1).f1), .string ((rd_T109 l0 x3_1).f2), .bool ((rd_T109 l0 x3_1).f3), .string ((rd_T109 l0 x3_1).f4), .string ((rd_T109 l0 x3_1).f5), .string ((rd_T109 l0 x3_1).f6), .string ((rd_T109 l0 x3_1).f7), .bool ((rd_T109 l0 x3_1).f8)] 109 (0, 0)) (by (with_reducible repeat (first | refine blk_drewN ?_ _ | refine blk_drew ?_ | refine blk_alloc ?_ _)); refine blk_put (cs := #[.string ((rd_T109 l0 x3_1).f0), .string ((rd_T109 l0 x3_1).f1), .string ((rd_T109 l0 x3_1).f2), .bool ((rd_T109 l0 x3_1).f3), .string ((rd_T109 l0 x3_1).f4), .string ((rd_T109 l0 x3_1).f5), .string ((rd_T109 l0 x3_1).f6), .string ((rd_T109 l0 x3_1).f7), .bool false]) ?_ 8 _ rfl; (with_reducible repeat (first | refine blk_drewN ?_ _ | refine blk_drew ?_ | refine blk_alloc ?_ _)); refine blk_put (cs := #[.string ((rd_T109 l0 x3_1).f0), .string ((rd_T109 l0 x3_1).f1), .string ((rd_T109 l0 x3_1).f2), .bool ((rd_T109 l0 x3_1).f3), .string ((rd_T109 l0 x3_1).f4), .string ((rd_T109 l0 x3_1).f5), .string ((rd_T109 l0 x3_1).f6), .string (⟨#[]⟩ : ByteArray), .bool false]) ?_ 7 _ rfl; (with_reducible repeat (first | refine blk_drewN ?_ _ | refine blk_drew ?_ | refine blk_alloc ?_ _)); refine blk_put (cs := #[.string ((rd_T109 l0 x3_1).f0), .string ((rd_T109 l0 x3_1).f1), .string ((rd_T109 l0 x3_1).f2), .bool ((rd_T109 l0 x3_1).f3), .string ((rd_T109 l0 x3_1).f4), .string ((rd_T109 l0 x3_1).f5), .string (⟨#[]⟩ : ByteArray), .string (⟨#[]⟩ : ByteArray), .bool false]) ?_ 6 _ rfl; (with_reducible repeat (first | refine blk_drewN ?_ _ | refine blk_drew ?_ | refine blk_alloc ?_ _)); refine blk_put (cs := #[.string ((rd_T109 l0 x3_1).f0), .string ((rd_T109 l0 x3_1).f1), .string ((rd_T109 l0 x3_1).f2), .bool ((rd_T109 l0 x3_1).f3), .string ((rd_T109 l0 x3_1).f4), .string (⟨#[]⟩ : ByteArray), .string (⟨#[]⟩ : ByteArray), .string (⟨#[]⟩ : ByteArray), .bool false]) ?_ 5 _ rfl; (with_reducible repeat (first | refine blk_drewN ?_ _ | refine blk_drew ?_ | refine blk_alloc ?_ _)); refine blk_put (cs := #[.string ((rd_T109 l0 x3_1).f0), .string ((rd_T109 l0 x3_1).f1), .string ((rd_T109 l0 x3_1).f2), .bool ((rd_T109 l0 x3_1).f3), .string (⟨#[]⟩ : ByteArray), .string (⟨#[]⟩ : ByteArray), .string (⟨#[]⟩ : ByteArray), .string (⟨#[]⟩ : ByteArray), .bool false]) ?_ 4 _ rfl; (with_reducible repeat (first | refine blk_drewN ?_ _ | refine blk_drew ?_ | refine blk_alloc ?_ _)); refine blk_put (cs := #[.string ((rd_T109 l0 x3_1).f0), .string ((rd_T109 l0 x3_1).f1), .string ((rd_T109 l0 x3_1).f2), .bool false, .string (⟨#[]⟩ : ByteArray), .string (⟨#[]⟩ : ByteArray), .string (⟨#[]⟩ : ByteArray), .string (⟨#[]⟩ : ByteArray), .bool false]) ?_ 3 _ rfl; (with_reducible repeat (first | refine blk_drewN ?_ _ | refine blk_drew ?_ | refine blk_alloc ?_ _)); refine blk_put (cs := #[.string ((rd_T109 l0 x3_1).f0), .string ((rd_T109 l0 x3_1).f1), .string (⟨#[]⟩ : ByteArray), .bool false, .string (⟨#[]⟩ : ByteArray), .string (⟨#[]⟩ : ByteArray), .string (⟨#[]⟩ : ByteArray), .string (⟨#[]⟩ : ByteArray), .bool false]) ?_ 2 _ rfl; (with_reducible repeat (first | refine blk_drewN ?_ _ | refine blk_drew ?_ | refine blk_alloc ?_ _)); refine blk_put (cs := #[.string ((rd_T109 l0 x3_1).f0), .string (⟨#[]⟩ : ByteArray), .string (⟨#[]⟩ : ByteArray), .bool false, .string (⟨#[]⟩ : ByteArray), .string (⟨#[]⟩ : ByteArray), .string (⟨#[]⟩ : ByteArray), .string (⟨#[]⟩ : ByteArray), .bool false]) ?_ 1 _ rfl; (with_reducible repeat (first | refine blk_drewN ?_ _ | refine blk_drew ?_ | refine blk_alloc ?_ _)); refine blk_put (cs := #[.string (⟨#[]⟩ : ByteArray), .string (⟨#[]⟩ : ByteArray), .string (⟨#[]⟩ : ByteArray), .bool false, .string (⟨#[]⟩ : ByteArray), .string (⟨#[]⟩ : ByteArray), .string (⟨#[]⟩ : ByteArray), .string (⟨#[]⟩ : ByteArray), .bool false]) ?_ 0 _ rfl; (with_reducible repeat (first | refine blk_drewN ?_ _ | refine blk_drew ?_ | refine blk_alloc ?_ _)); exact BK377.out) hb); have n1_ := Aside0.mk (below_step (by repeat (first | (with_reducible first | exact HB.out | apply below_alloc | apply pw_below_drewN | apply below_drew1 | refine below_set ?_ GE377.out) | exact HB.out)) hb); clear BK377; clear HB; have BK377 := n0_; have HB := n1_; clear n0_ n1_; (try clear hb); (try clear hb2); (try clear hk); (try clear hi); have hcz12_0 : w11.cell? ⟨gb377, 0, none⟩ = some (.string ((rd_T109 l0 x3_1).f0)) := (blk_cell BK377.out 0).trans rfl; have hcz12_1 : w11.cell? ⟨gb377, 1, none⟩ = some (.string ((rd_T109 l0 x3_1).f1)) := (blk_cell BK377.out 1).trans rfl; have hcz12_2 : w11.cell? ⟨gb377, 2, none⟩ = some (.string ((rd_T109 l0 x3_1).f2)) := (blk_cell BK377.out 2).trans rfl; have hcz12_3 : w11.cell? ⟨gb377, 3, none⟩ = some (.bool ((rd_T109 l0 x3_1).f3)) := (blk_cell BK377.out 3).trans rfl; have hcz12_4 : w11.cell? ⟨gb377, 4, none⟩ = some (.string ((rd_T109 l0 x3_1).f4)) := (blk_cell BK377.out 4).trans rfl; have hcz12_5 : w11.cell? ⟨gb377, 5, none⟩ = some (.string ((rd_T109 l0 x3_1).f5)) := (blk_cell BK377.out 5).trans rfl; have hcz12_6 : w11.cell? ⟨gb377, 6, none⟩ = some (.string ((rd_T109 l0 x3_1).f6)) := (blk_cell BK377.out 6).trans rfl; have hcz12_7 : w11.cell? ⟨gb377, 7, none⟩ = some (.string ((rd_T109 l0 x3_1).f7)) := (blk_cell BK377.out 7).trans rfl; have hcz12_8 : w11.cell? ⟨gb377, 8, none⟩ = some (.bool ((rd_T109 l0 x3_1).f8)) := (blk_cell BK377.out 8).trans rfl; have hfz12_0 := blk_frozen BK377.out 0; have hfz12_1 := blk_frozen BK377.out 1; have hfz12_2 := blk_frozen BK377.out 2; have hfz12_3 := blk_frozen BK377.out 3; have hfz12_4 := blk_frozen BK377.out 4; have hfz12_5 := blk_frozen BK377.out 5; have hfz12_6 := blk_frozen BK377.out 6; have hfz12_7 := blk_frozen BK377.out 7; have hfz12_8 := blk_frozen BK377.out 8) | (go_at_call 127; (with_reducible refine (tripartiteref07_Plain.calls k1 ((rd_T109 l0 x3_1).f0) ((rd_T109 l0 x3_1).f1) ((rd_T109 l0 x3_1).f2) ((rd_T109 l0 x3_1).f3) ((rd_T109 l0 x3_1).f4) ((rd_T109 l0 x3_1).f5) ((rd_T109 l0 x3_1).f6) ((rd_T109 l0 x3_1).f7) ((rd_T109 l0 x3_1).f8) t379 _ A9.out).mono ?_); rintro e w13 ⟨rfl, hb⟩; have n0_ := Aside0.mk (blk_below (g := gb377) (o := .cells #[.string ((rd_T109 l0 x3_1).f0), .string ((rd_T109 l0 x3_1).f1), .string ((rd_T109 l0 x3_1).f2), .bool ((rd_T109 l0 x3_1).f3), .string ((rd_T109 l0 x3_1).f4), .string ((rd_T109 l0 x3_1).f5), .string ((rd_T109 l0 x3_1).f6), .string ((rd_T109 l0 x3_1).f7), .bool ((rd_T109 l0 x3_1).f8)] 109 (0, 0)) (by (with_reducible repeat (first | refine blk_drewN ?_ _ | refine blk_drew ?_ | refine blk_alloc ?_ _)); exact BK377.out) hb); have n1_ := Aside0.mk (below_step (by repeat (first | (with_reducible first | exact HB.out | apply below_alloc | apply pw_below_drewN | apply below_drew1 | refine below_set ?_ GE377.out) | exact HB.out)) hb); clear BK377; clear HB; have BK377 := n0_; have HB := n1_; clear n0_ n1_; (try clear hb); (try clear hb2); (try clear hk); (try clear hi)))
       go_meet
       case rel => exact ⟨_, (!t379), (by first | rfl | (simp; done) | (simp [*]; done)), H', ⟨by have := HK1.out; first | omega | exact Nat.le_refl _⟩, ⟨by (with_reducible repeat (first | refine blk_drewN ?_ _ | refine blk_drew ?_ | refine blk_alloc ?_ _)); exact BK377.out⟩, ⟨by repeat (first | (with_reducible first | exact HB.out | apply below_alloc | apply pw_below_drewN | apply below_drew1 | refine below_set ?_ GE377.out) | exact HB.out)⟩⟩
      ·replace c8 := Bool.eq_false_iff.mpr c8
       subst c8
       have H1 : (tripartiteref07_Right.j1 k1 l0 x3_1 true ((rd_T109 l0 x3_1).f0) ((rd_T109 l0 x3_1).f1) ((rd_T109 l0 x3_1).f2) ((rd_T109 l0 x3_1).f3) ((rd_T109 l0 x3_1).f4) ((rd_T109 l0 x3_1).f5) ((rd_T109 l0 x3_1).f6) ((rd_T109 l0 x3_1).f7) ((rd_T109 l0 x3_1).f8)) = some r := by rw [if_neg (show ¬ (false = true) by decide)] at H; exact H
       clear H
       have H := H1
       clear H1
       have H' := Aside0.mk H
       clear H
       have hcz14_0 : w5.cell? ⟨gb377, 0, none⟩ = some (.string (⟨#[]⟩ : ByteArray)) := (blk_cell BK377.out 0).trans rfl
       have hcz14_1 : w5.cell? ⟨gb377, 1, none⟩ = some (.string (⟨#[]⟩ : ByteArray)) := (blk_cell BK377.out 1).trans rfl
       have hcz14_2 : w5.cell? ⟨gb377, 2, none⟩ = some (.string (⟨#[]⟩ : ByteArray)) := (blk_cell BK377.out 2).trans rfl
       have hcz14_3 : w5.cell? ⟨gb377, 3, none⟩ = some (.bool false) := (blk_cell BK377.out 3).trans rfl
       have hcz14_4 : w5.cell? ⟨gb377, 4, none⟩ = some (.string (⟨#[]⟩ : ByteArray)) := (blk_cell BK377.out 4).trans rfl
       have hcz14_5 : w5.cell? ⟨gb377, 5, none⟩ = some (.string (⟨#[]⟩ : ByteArray)) := (blk_cell BK377.out 5).trans rfl
       have hcz14_6 : w5.cell? ⟨gb377, 6, none⟩ = some (.string (⟨#[]⟩ : ByteArray)) := (blk_cell BK377.out 6).trans rfl
       have hcz14_7 : w5.cell? ⟨gb377, 7, none⟩ = some (.string (⟨#[]⟩ : ByteArray)) := (blk_cell BK377.out 7).trans rfl
       have hcz14_8 : w5.cell? ⟨gb377, 8, none⟩ = some (.bool false) := (blk_cell BK377.out 8).trans rfl
       have hfz14_0 := blk_frozen BK377.out 0
       have hfz14_1 := blk_frozen BK377.out 1
       have hfz14_2 := blk_frozen BK377.out 2
       have hfz14_3 := blk_frozen BK377.out 3
       have hfz14_4 := blk_frozen BK377.out 4
       have hfz14_5 := blk_frozen BK377.out 5
       have hfz14_6 := blk_frozen BK377.out 6
       have hfz14_7 := blk_frozen BK377.out 7
       have hfz14_8 := blk_frozen BK377.out 8
       go_wp2_with (first | ((with_reducible refine gate_callee (f := 126) rfl ?_); refine goesL_ (some 16) rfl rfl Try.func126 (by kernel_rfl) rfl #[.agg #[.string ((rd_T109 l0 x3_1).f0), .string ((rd_T109 l0 x3_1).f1), .string ((rd_T109 l0 x3_1).f2), .bool ((rd_T109 l0 x3_1).f3), .string ((rd_T109 l0 x3_1).f4), .string ((rd_T109 l0 x3_1).f5), .string ((rd_T109 l0 x3_1).f6), .string ((rd_T109 l0 x3_1).f7), .bool ((rd_T109 l0 x3_1).f8)]] rfl (by (try simp only [List.map_toArray, List.map_cons, List.map_nil]); first | done | rfl | (simp only [List.length_drop, List.length_take]; rfl)) ?_; (with_reducible refine (tripartiteref07_one.calls ((rd_T109 l0 x3_1).f0) ((rd_T109 l0 x3_1).f1) ((rd_T109 l0 x3_1).f2) ((rd_T109 l0 x3_1).f3) ((rd_T109 l0 x3_1).f4) ((rd_T109 l0 x3_1).f5) ((rd_T109 l0 x3_1).f6) ((rd_T109 l0 x3_1).f7) ((rd_T109 l0 x3_1).f8) false _ A7.out).mono ?_); rintro e w15 ⟨rfl, hb⟩; refine ⟨_, rfl, ?_⟩; have n0_ := Aside0.mk (blk_below (g := gb377) (o := .cells #[.string ((rd_T109 l0 x3_1).f0), .string ((rd_T109 l0 x3_1).f1), .string ((rd_T109 l0 x3_1).f2), .bool ((rd_T109 l0 x3_1).f3), .string ((rd_T109 l0 x3_1).f4), .string ((rd_T109 l0 x3_1).f5), .string ((rd_T109 l0 x3_1).f6), .string ((rd_T109 l0 x3_1).f7), .bool ((rd_T109 l0 x3_1).f8)] 109 (0, 0)) (by (with_reducible repeat (first | refine blk_drewN ?_ _ | refine blk_drew ?_ | refine blk_alloc ?_ _)); refine blk_put (cs := #[.string ((rd_T109 l0 x3_1).f0), .string ((rd_T109 l0 x3_1).f1), .string ((rd_T109 l0 x3_1).f2), .bool ((rd_T109 l0 x3_1).f3), .string ((rd_T109 l0 x3_1).f4), .string ((rd_T109 l0 x3_1).f5), .string ((rd_T109 l0 x3_1).f6), .string ((rd_T109 l0 x3_1).f7), .bool false]) ?_ 8 _ rfl; (with_reducible repeat (first | refine blk_drewN ?_ _ | refine blk_drew ?_ | refine blk_alloc ?_ _)); refine blk_put (cs := #[.string ((rd_T109 l0 x3_1).f0), .string ((rd_T109 l0 x3_1).f1), .string ((rd_T109 l0 x3_1).f2), .bool ((rd_T109 l0 x3_1).f3), .string ((rd_T109 l0 x3_1).f4), .string ((rd_T109 l0 x3_1).f5), .string ((rd_T109 l0 x3_1).f6), .string (⟨#[]⟩ : ByteArray), .bool false]) ?_ 7 _ rfl; (with_reducible repeat (first | refine blk_drewN ?_ _ | refine blk_drew ?_ | refine blk_alloc ?_ _)); refine blk_put (cs := #[.string ((rd_T109 l0 x3_1).f0), .string ((rd_T109 l0 x3_1).f1), .string ((rd_T109 l0 x3_1).f2), .bool ((rd_T109 l0 x3_1).f3), .string ((rd_T109 l0 x3_1).f4), .string ((rd_T109 l0 x3_1).f5), .string (⟨#[]⟩ : ByteArray), .string (⟨#[]⟩ : ByteArray), .bool false]) ?_ 6 _ rfl; (with_reducible repeat (first | refine blk_drewN ?_ _ | refine blk_drew ?_ | refine blk_alloc ?_ _)); refine blk_put (cs := #[.string ((rd_T109 l0 x3_1).f0), .string ((rd_T109 l0 x3_1).f1), .string ((rd_T109 l0 x3_1).f2), .bool ((rd_T109 l0 x3_1).f3), .string ((rd_T109 l0 x3_1).f4), .string (⟨#[]⟩ : ByteArray), .string (⟨#[]⟩ : ByteArray), .string (⟨#[]⟩ : ByteArray), .bool false]) ?_ 5 _ rfl; (with_reducible repeat (first | refine blk_drewN ?_ _ | refine blk_drew ?_ | refine blk_alloc ?_ _)); refine blk_put (cs := #[.string ((rd_T109 l0 x3_1).f0), .string ((rd_T109 l0 x3_1).f1), .string ((rd_T109 l0 x3_1).f2), .bool ((rd_T109 l0 x3_1).f3), .string (⟨#[]⟩ : ByteArray), .string (⟨#[]⟩ : ByteArray), .string (⟨#[]⟩ : ByteArray), .string (⟨#[]⟩ : ByteArray), .bool false]) ?_ 4 _ rfl; (with_reducible repeat (first | refine blk_drewN ?_ _ | refine blk_drew ?_ | refine blk_alloc ?_ _)); refine blk_put (cs := #[.string ((rd_T109 l0 x3_1).f0), .string ((rd_T109 l0 x3_1).f1), .string ((rd_T109 l0 x3_1).f2), .bool false, .string (⟨#[]⟩ : ByteArray), .string (⟨#[]⟩ : ByteArray), .string (⟨#[]⟩ : ByteArray), .string (⟨#[]⟩ : ByteArray), .bool false]) ?_ 3 _ rfl; (with_reducible repeat (first | refine blk_drewN ?_ _ | refine blk_drew ?_ | refine blk_alloc ?_ _)); refine blk_put (cs := #[.string ((rd_T109 l0 x3_1).f0), .string ((rd_T109 l0 x3_1).f1), .string (⟨#[]⟩ : ByteArray), .bool false, .string (⟨#[]⟩ : ByteArray), .string (⟨#[]⟩ : ByteArray), .string (⟨#[]⟩ : ByteArray), .string (⟨#[]⟩ : ByteArray), .bool false]) ?_ 2 _ rfl; (with_reducible repeat (first | refine blk_drewN ?_ _ | refine blk_drew ?_ | refine blk_alloc ?_ _)); refine blk_put (cs := #[.string ((rd_T109 l0 x3_1).f0), .string (⟨#[]⟩ : ByteArray), .string (⟨#[]⟩ : ByteArray), .bool false, .string (⟨#[]⟩ : ByteArray), .string (⟨#[]⟩ : ByteArray), .string (⟨#[]⟩ : ByteArray), .string (⟨#[]⟩ : ByteArray), .bool false]) ?_ 1 _ rfl; (with_reducible repeat (first | refine blk_drewN ?_ _ | refine blk_drew ?_ | refine blk_alloc ?_ _)); refine blk_put (cs := #[.string (⟨#[]⟩ : ByteArray), .string (⟨#[]⟩ : ByteArray), .string (⟨#[]⟩ : ByteArray), .bool false, .string (⟨#[]⟩ : ByteArray), .string (⟨#[]⟩ : ByteArray), .string (⟨#[]⟩ : ByteArray), .string (⟨#[]⟩ : ByteArray), .bool false]) ?_ 0 _ rfl; (with_reducible repeat (first | refine blk_drewN ?_ _ | refine blk_drew ?_ | refine blk_alloc ?_ _)); exact BK377.out) hb); have n1_ := Aside0.mk (below_step (by repeat (first | (with_reducible first | exact HB.out | apply below_alloc | apply pw_below_drewN | apply below_drew1 | refine below_set ?_ GE377.out) | exact HB.out)) hb); clear BK377; clear HB; have BK377 := n0_; have HB := n1_; clear n0_ n1_; (try clear hb); (try clear hb2); (try clear hk); (try clear hi)))
       go_meet
       case rel => exact ⟨_, (true), (by first | rfl | (simp; done) | (simp [*]; done)), H', ⟨by have := HK1.out; first | omega | exact Nat.le_refl _⟩, ⟨by (with_reducible repeat (first | refine blk_drewN ?_ _ | refine blk_drew ?_ | refine blk_alloc ?_ _)); exact BK377.out⟩, ⟨by repeat (first | (with_reducible first | exact HB.out | apply below_alloc | apply pw_below_drewN | apply below_drew1 | refine below_set ?_ GE377.out) | exact HB.out)⟩⟩
     case rest =>
      clear HC4
      try clear c1
      try clear c2
      try clear c2b0
      try clear p2
      try clear c3
      try clear c3b0
      try clear p3
      try clear q3
      try clear hx3
      try clear c8
      try clear c9
      try clear c12
      try clear hcz10_0
      try clear hcz10_1
      try clear hcz10_2
      try clear hcz10_3
      try clear hcz10_4
      try clear hcz10_5
      try clear hcz10_6
      try clear hcz10_7
      try clear hcz10_8
      try clear hcz12_0
      try clear hcz12_1
      try clear hcz12_2
      try clear hcz12_3
      try clear hcz12_4
      try clear hcz12_5
      try clear hcz12_6
      try clear hcz12_7
      try clear hcz12_8
      try clear hcz14_0
      try clear hcz14_1
      try clear hcz14_2
      try clear hcz14_3
      try clear hcz14_4
      try clear hcz14_5
      try clear hcz14_6
      try clear hcz14_7
      try clear hcz14_8
      try clear hcz6_0
      try clear hcz6_1
      try clear hcz6_2
      try clear hcz6_3
      try clear hcz6_4
      try clear hcz6_5
      try clear hcz6_6
      try clear hcz6_7
      try clear hcz6_8
      try clear hfz10_0
      try clear hfz10_1
      try clear hfz10_2
      try clear hfz10_3
      try clear hfz10_4
      try clear hfz10_5
      try clear hfz10_6
      try clear hfz10_7
      try clear hfz10_8
      try clear hfz12_0
      try clear hfz12_1
      try clear hfz12_2
      try clear hfz12_3
      try clear hfz12_4
      try clear hfz12_5
      try clear hfz12_6
      try clear hfz12_7
      try clear hfz12_8
      try clear hfz14_0
      try clear hfz14_1
      try clear hfz14_2
      try clear hfz14_3
      try clear hfz14_4
      try clear hfz14_5
      try clear hfz14_6
      try clear hfz14_7
      try clear hfz14_8
      try clear hfz6_0
      try clear hfz6_1
      try clear hfz6_2
      try clear hfz6_3
      try clear hfz6_4
      try clear hfz6_5
      try clear hfz6_6
      try clear hfz6_7
      try clear hfz6_8
      try clear hx376_0
      try clear hx376_1
      try clear hx376_2
      try clear hx376_3
      try clear hx376_4
      try clear hx376_5
      try clear hx376_6
      try clear hx376_7
      try clear hx376_8
      try clear p376
      try clear q376
      obtain ⟨kq, x22_3, rfl, HA, HJ3, BK377, HB⟩ := hcut
      cases kq with
      | zero => exact absurd HA.out (by simp [tripartiteref07_Right.j1])
      | succ kj3 =>
       have H := HA.out
       clear HA
       simp only [tripartiteref07_Right.j1] at H
       by_cases c16 : x22_3 = true
       ·subst c16
        have H1 : (some false) = some r := by rw [if_pos rfl] at H; exact H
        clear H
        have H := H1
        clear H1
        obtain rfl := Option.some.inj H
        go_wp2
        go_ret
        exact ⟨by first | rfl | (simp [errW_none, errW_some] <;> rfl) | (simp [*, errW_none, errW_some] <;> rfl), by repeat (first | (with_reducible first | exact HB.out | apply below_alloc | apply pw_below_drewN | apply below_drew1 | refine below_set ?_ GE377.out) | exact HB.out)⟩
       ·replace c16 := Bool.eq_false_iff.mpr c16
        subst c16
        have H1 : (if ((rd_T109 l0 x3_1).f3) = true then (tripartiteref07_Right.l0 kj3 l0 (wrap64 (x3_1 + 1))) else (if ((rd_T109 l0 x3_1).f4).toList = ([] : List UInt8) then (some false) else (if x3_1 > 0 then (if 0 ≤ (wrap64 (x3_1 - 1)) then (if (wrap64 (x3_1 - 1)) < (l0.length : Int) then (if ((rd_T109 l0 (wrap64 (x3_1 - 1))).f3 = true) then (if (wrap64 (x3_1 + 1)) < (l0.length : Int) then ((tripartiteref01_Ends.f ((rd_T109 l0 x3_1).f4)).bind fun t381 => (if t381 = true then (tripartiteref07_Right.l0 kj3 l0 (wrap64 (x3_1 + 1))) else (some false))) else (tripartiteref07_Right.l0 kj3 l0 (wrap64 (x3_1 + 1)))) else (some false)) else (none)) else (none)) else (if (wrap64 (x3_1 + 1)) < (l0.length : Int) then ((tripartiteref01_Ends.f ((rd_T109 l0 x3_1).f4)).bind fun t382 => (if t382 = true then (tripartiteref07_Right.l0 kj3 l0 (wrap64 (x3_1 + 1))) else (some false))) else (tripartiteref07_Right.l0 kj3 l0 (wrap64 (x3_1 + 1))))))) = some r := by rw [if_neg (show ¬ (false = true) by decide)] at H; exact H
        clear H
        have H := H1
        clear H1
        by_cases c17 : ((rd_T109 l0 x3_1).f3) = true
        ·rw [if_pos c17] at H
         have c17b0 : ((rd_T109 l0 x3_1).f3) = true := c17
         clear c17
         have H' := Aside0.mk H
         clear H
         have hcz18_0 : wc.cell? ⟨gb377, 0, none⟩ = some (.string ((rd_T109 l0 x3_1).f0)) := (blk_cell BK377.out 0).trans rfl
         have hcz18_1 : wc.cell? ⟨gb377, 1, none⟩ = some (.string ((rd_T109 l0 x3_1).f1)) := (blk_cell BK377.out 1).trans rfl
         have hcz18_2 : wc.cell? ⟨gb377, 2, none⟩ = some (.string ((rd_T109 l0 x3_1).f2)) := (blk_cell BK377.out 2).trans rfl
         have hcz18_3 : wc.cell? ⟨gb377, 3, none⟩ = some (.bool ((rd_T109 l0 x3_1).f3)) := (blk_cell BK377.out 3).trans rfl
         have hcz18_4 : wc.cell? ⟨gb377, 4, none⟩ = some (.string ((rd_T109 l0 x3_1).f4)) := (blk_cell BK377.out 4).trans rfl
         have hcz18_5 : wc.cell? ⟨gb377, 5, none⟩ = some (.string ((rd_T109 l0 x3_1).f5)) := (blk_cell BK377.out 5).trans rfl
         have hcz18_6 : wc.cell? ⟨gb377, 6, none⟩ = some (.string ((rd_T109 l0 x3_1).f6)) := (blk_cell BK377.out 6).trans rfl
         have hcz18_7 : wc.cell? ⟨gb377, 7, none⟩ = some (.string ((rd_T109 l0 x3_1).f7)) := (blk_cell BK377.out 7).trans rfl
         have hcz18_8 : wc.cell? ⟨gb377, 8, none⟩ = some (.bool ((rd_T109 l0 x3_1).f8)) := (blk_cell BK377.out 8).trans rfl
         have hfz18_0 := blk_frozen BK377.out 0
         have hfz18_1 := blk_frozen BK377.out 1
         have hfz18_2 := blk_frozen BK377.out 2
         have hfz18_3 := blk_frozen BK377.out 3
         have hfz18_4 := blk_frozen BK377.out 4
         have hfz18_5 := blk_frozen BK377.out 5
         have hfz18_6 := blk_frozen BK377.out 6
         have hfz18_7 := blk_frozen BK377.out 7
         have hfz18_8 := blk_frozen BK377.out 8
         go_wp2
         go_roundg kj3
         case measure => have := HK1.out; have := HJ3.out; omega
         case rel => exact ⟨(wrap64 (x3_1 + 1)), (by first | rfl | (simp; done) | (simp [*]; done)), H', ⟨by have := HK1.out; have := HJ3.out; omega⟩, ⟨by repeat (first | (with_reducible first | exact HB.out | apply below_alloc | apply pw_below_drewN | apply below_drew1 | refine below_set ?_ GE377.out) | exact HB.out)⟩⟩
        ·rw [if_neg c17] at H
         have c17b0 : ((rd_T109 l0 x3_1).f3) = false := by simpa using c17
         clear c17
         by_cases c19 : ((rd_T109 l0 x3_1).f4).toList = ([] : List UInt8)
         ·rw [if_pos c19] at H
          have c19b0 : (((rd_T109 l0 x3_1).f4).toList == ([] : List UInt8)) = true := beq_iff_eq.mpr c19
          have c19b1 : (((rd_T109 l0 x3_1).f4).toList != ([] : List UInt8)) = false := bne_eq_false_iff_eq.mpr c19
          clear c19
          obtain rfl := Option.some.inj H
          have hcz20_0 : wc.cell? ⟨gb377, 0, none⟩ = some (.string ((rd_T109 l0 x3_1).f0)) := (blk_cell BK377.out 0).trans rfl
          have hcz20_1 : wc.cell? ⟨gb377, 1, none⟩ = some (.string ((rd_T109 l0 x3_1).f1)) := (blk_cell BK377.out 1).trans rfl
          have hcz20_2 : wc.cell? ⟨gb377, 2, none⟩ = some (.string ((rd_T109 l0 x3_1).f2)) := (blk_cell BK377.out 2).trans rfl
          have hcz20_3 : wc.cell? ⟨gb377, 3, none⟩ = some (.bool ((rd_T109 l0 x3_1).f3)) := (blk_cell BK377.out 3).trans rfl
          have hcz20_4 : wc.cell? ⟨gb377, 4, none⟩ = some (.string ((rd_T109 l0 x3_1).f4)) := (blk_cell BK377.out 4).trans rfl
          have hcz20_5 : wc.cell? ⟨gb377, 5, none⟩ = some (.string ((rd_T109 l0 x3_1).f5)) := (blk_cell BK377.out 5).trans rfl
          have hcz20_6 : wc.cell? ⟨gb377, 6, none⟩ = some (.string ((rd_T109 l0 x3_1).f6)) := (blk_cell BK377.out 6).trans rfl
          have hcz20_7 : wc.cell? ⟨gb377, 7, none⟩ = some (.string ((rd_T109 l0 x3_1).f7)) := (blk_cell BK377.out 7).trans rfl
          have hcz20_8 : wc.cell? ⟨gb377, 8, none⟩ = some (.bool ((rd_T109 l0 x3_1).f8)) := (blk_cell BK377.out 8).trans rfl
          have hfz20_0 := blk_frozen BK377.out 0
          have hfz20_1 := blk_frozen BK377.out 1
          have hfz20_2 := blk_frozen BK377.out 2
          have hfz20_3 := blk_frozen BK377.out 3
          have hfz20_4 := blk_frozen BK377.out 4
          have hfz20_5 := blk_frozen BK377.out 5
          have hfz20_6 := blk_frozen BK377.out 6
          have hfz20_7 := blk_frozen BK377.out 7
          have hfz20_8 := blk_frozen BK377.out 8
          go_wp2
          go_ret
          exact ⟨by first | rfl | (simp [errW_none, errW_some] <;> rfl) | (simp [*, errW_none, errW_some] <;> rfl), by repeat (first | (with_reducible first | exact HB.out | apply below_alloc | apply pw_below_drewN | apply below_drew1 | refine below_set ?_ GE377.out) | exact HB.out)⟩
         ·rw [if_neg c19] at H
          have c19b0 : (((rd_T109 l0 x3_1).f4).toList == ([] : List UInt8)) = false := beq_eq_false_iff_ne.mpr c19
          have c19b1 : (((rd_T109 l0 x3_1).f4).toList != ([] : List UInt8)) = true := bne_iff_ne.mpr c19
          by_cases c21 : x3_1 > 0
          ·rw [if_pos c21] at H
           have c21b0 : decide (0 < x3_1) = true := decide_eq_true c21
           clear c21
           obtain ⟨ji22, hji22⟩ : ∃ j_ : Int, (wrap64 (x3_1 - 1)) = j_ := ⟨_, rfl⟩
           replace H : (if 0 ≤ (ji22) then (if (ji22) < (l0.length : Int) then (if ((rd_T109 l0 (ji22)).f3 = true) then (if (wrap64 (x3_1 + 1)) < (l0.length : Int) then ((tripartiteref01_Ends.f ((rd_T109 l0 x3_1).f4)).bind fun t381 => (if t381 = true then (tripartiteref07_Right.l0 kj3 l0 (wrap64 (x3_1 + 1))) else (some false))) else (tripartiteref07_Right.l0 kj3 l0 (wrap64 (x3_1 + 1)))) else (some false)) else (none)) else (none)) = some r := by first | (rw [hji22] at H; exact H) | (simp only [hji22] at H ⊢; exact H)
           have hji22w : (IntKind.i64.wrap (x3_1 - 1)) = ji22 := (i64_w _).trans hji22
           by_cases c23 : 0 ≤ (ji22)
           ·rw [if_pos c23] at H
            have c23b0 : decide (0 ≤ (ji22)) = true := decide_eq_true c23
            clear c23
            by_cases c24 : (ji22) < (l0.length : Int)
            ·rw [if_pos c24] at H
             have c24b0 : decide ((ji22) < (l0.length : Int)) = true := decide_eq_true c24
             clear c24
             obtain ⟨bq25, hbq25⟩ : ∃ b_ : Bool, b_ = ((rd_T109 l0 (ji22)).f3) := ⟨_, rfl⟩
             replace H : (if (bq25 = true) then (if (wrap64 (x3_1 + 1)) < (l0.length : Int) then ((tripartiteref01_Ends.f ((rd_T109 l0 x3_1).f4)).bind fun t381 => (if t381 = true then (tripartiteref07_Right.l0 kj3 l0 (wrap64 (x3_1 + 1))) else (some false))) else (tripartiteref07_Right.l0 kj3 l0 (wrap64 (x3_1 + 1)))) else (some false)) = some r := by rw [← hbq25] at H; exact H
             have Nbq25 := Aside0.mk hbq25
             clear hbq25
             by_cases c26 : (bq25 = true)
             ·subst c26
              have H1 : (if (wrap64 (x3_1 + 1)) < (l0.length : Int) then ((tripartiteref01_Ends.f ((rd_T109 l0 x3_1).f4)).bind fun t381 => (if t381 = true then (tripartiteref07_Right.l0 kj3 l0 (wrap64 (x3_1 + 1))) else (some false))) else (tripartiteref07_Right.l0 kj3 l0 (wrap64 (x3_1 + 1)))) = some r := by rw [if_pos rfl] at H; exact H
              clear H
              have H := H1
              clear H1
              by_cases c27 : (wrap64 (x3_1 + 1)) < (l0.length : Int)
              ·rw [if_pos c27] at H
               have c27b0 : decide ((wrap64 (x3_1 + 1)) < (l0.length : Int)) = true := decide_eq_true c27
               clear c27
               replace H := Option.bind_eq_some_iff.mp H
               obtain ⟨t381, A280, H⟩ := H
               replace H : (if t381 = true then (tripartiteref07_Right.l0 kj3 l0 (wrap64 (x3_1 + 1))) else (some false)) = some r := H
               have A28 := Aside0.mk A280
               clear A280
               by_cases c29 : t381 = true
               ·subst c29
                have H1 : (tripartiteref07_Right.l0 kj3 l0 (wrap64 (x3_1 + 1))) = some r := by rw [if_pos rfl] at H; exact H
                clear H
                have H := H1
                clear H1
                have H' := Aside0.mk H
                clear H
                have hcz30_0 : wc.cell? ⟨gb377, 0, none⟩ = some (.string ((rd_T109 l0 x3_1).f0)) := (blk_cell BK377.out 0).trans rfl
                have hcz30_1 : wc.cell? ⟨gb377, 1, none⟩ = some (.string ((rd_T109 l0 x3_1).f1)) := (blk_cell BK377.out 1).trans rfl
                have hcz30_2 : wc.cell? ⟨gb377, 2, none⟩ = some (.string ((rd_T109 l0 x3_1).f2)) := (blk_cell BK377.out 2).trans rfl
                have hcz30_3 : wc.cell? ⟨gb377, 3, none⟩ = some (.bool ((rd_T109 l0 x3_1).f3)) := (blk_cell BK377.out 3).trans rfl
                have hcz30_4 : wc.cell? ⟨gb377, 4, none⟩ = some (.string ((rd_T109 l0 x3_1).f4)) := (blk_cell BK377.out 4).trans rfl
                have hcz30_5 : wc.cell? ⟨gb377, 5, none⟩ = some (.string ((rd_T109 l0 x3_1).f5)) := (blk_cell BK377.out 5).trans rfl
                have hcz30_6 : wc.cell? ⟨gb377, 6, none⟩ = some (.string ((rd_T109 l0 x3_1).f6)) := (blk_cell BK377.out 6).trans rfl
                have hcz30_7 : wc.cell? ⟨gb377, 7, none⟩ = some (.string ((rd_T109 l0 x3_1).f7)) := (blk_cell BK377.out 7).trans rfl
                have hcz30_8 : wc.cell? ⟨gb377, 8, none⟩ = some (.bool ((rd_T109 l0 x3_1).f8)) := (blk_cell BK377.out 8).trans rfl
                have hfz30_0 := blk_frozen BK377.out 0
                have hfz30_1 := blk_frozen BK377.out 1
                have hfz30_2 := blk_frozen BK377.out 2
                have hfz30_3 := blk_frozen BK377.out 3
                have hfz30_4 := blk_frozen BK377.out 4
                have hfz30_5 := blk_frozen BK377.out 5
                have hfz30_6 := blk_frozen BK377.out 6
                have hfz30_7 := blk_frozen BK377.out 7
                have hfz30_8 := blk_frozen BK377.out 8
                have p380 : 0 ≤ ((ji22) : Int) := of_decide_eq_true (by first | (with_reducible assumption) | assumption)
                have q380 : (ji22) < (l0.length : Int) := of_decide_eq_true (by first | (with_reducible assumption) | assumption)
                obtain ⟨ad380, e380, hx380_0, hx380_1, hx380_2, hx380_3, hx380_4, hx380_5, hx380_6, hx380_7, hx380_8⟩ := at_T109 HR0.out (ji22) p380 q380
                (try rw [← Nbq25.out] at hx380_3)
                (try rw [← Nbq25.out] at hx380_8)
                obtain rfl : ad376 = ad380 := (by injection e380)
                replace hx380_0 := (HB.out.cell (World.block_lt_of_cell? w _ hx380_0)).trans hx380_0
                replace hx380_1 := (HB.out.cell (World.block_lt_of_cell? w _ hx380_1)).trans hx380_1
                replace hx380_2 := (HB.out.cell (World.block_lt_of_cell? w _ hx380_2)).trans hx380_2
                replace hx380_3 := (HB.out.cell (World.block_lt_of_cell? w _ hx380_3)).trans hx380_3
                replace hx380_4 := (HB.out.cell (World.block_lt_of_cell? w _ hx380_4)).trans hx380_4
                replace hx380_5 := (HB.out.cell (World.block_lt_of_cell? w _ hx380_5)).trans hx380_5
                replace hx380_6 := (HB.out.cell (World.block_lt_of_cell? w _ hx380_6)).trans hx380_6
                replace hx380_7 := (HB.out.cell (World.block_lt_of_cell? w _ hx380_7)).trans hx380_7
                replace hx380_8 := (HB.out.cell (World.block_lt_of_cell? w _ hx380_8)).trans hx380_8
                replace p380 := eq_true p380
                replace q380 := eq_true q380
                go_wp2_with (first | (go_at_call 83; (with_reducible refine (tripartiteref01_Ends.calls ((rd_T109 l0 x3_1).f4) true _ A28.out).mono ?_); rintro e w' ⟨rfl, ⟨nd, rfl⟩⟩))
                go_roundg kj3
                case measure => have := HK1.out; have := HJ3.out; omega
                case rel => exact ⟨(wrap64 (x3_1 + 1)), (by first | rfl | (simp; done) | (simp [*]; done)), H', ⟨by have := HK1.out; have := HJ3.out; omega⟩, ⟨by repeat (first | (with_reducible first | exact HB.out | apply below_alloc | apply pw_below_drewN | apply below_drew1 | refine below_set ?_ GE377.out) | exact HB.out)⟩⟩
               ·replace c29 := Bool.eq_false_iff.mpr c29
                subst c29
                have H1 : (some false) = some r := by rw [if_neg (show ¬ (false = true) by decide)] at H; exact H
                clear H
                have H := H1
                clear H1
                obtain rfl := Option.some.inj H
                have hcz31_0 : wc.cell? ⟨gb377, 0, none⟩ = some (.string ((rd_T109 l0 x3_1).f0)) := (blk_cell BK377.out 0).trans rfl
                have hcz31_1 : wc.cell? ⟨gb377, 1, none⟩ = some (.string ((rd_T109 l0 x3_1).f1)) := (blk_cell BK377.out 1).trans rfl
                have hcz31_2 : wc.cell? ⟨gb377, 2, none⟩ = some (.string ((rd_T109 l0 x3_1).f2)) := (blk_cell BK377.out 2).trans rfl
                have hcz31_3 : wc.cell? ⟨gb377, 3, none⟩ = some (.bool ((rd_T109 l0 x3_1).f3)) := (blk_cell BK377.out 3).trans rfl
                have hcz31_4 : wc.cell? ⟨gb377, 4, none⟩ = some (.string ((rd_T109 l0 x3_1).f4)) := (blk_cell BK377.out 4).trans rfl
                have hcz31_5 : wc.cell? ⟨gb377, 5, none⟩ = some (.string ((rd_T109 l0 x3_1).f5)) := (blk_cell BK377.out 5).trans rfl
                have hcz31_6 : wc.cell? ⟨gb377, 6, none⟩ = some (.string ((rd_T109 l0 x3_1).f6)) := (blk_cell BK377.out 6).trans rfl
                have hcz31_7 : wc.cell? ⟨gb377, 7, none⟩ = some (.string ((rd_T109 l0 x3_1).f7)) := (blk_cell BK377.out 7).trans rfl
                have hcz31_8 : wc.cell? ⟨gb377, 8, none⟩ = some (.bool ((rd_T109 l0 x3_1).f8)) := (blk_cell BK377.out 8).trans rfl
                have hfz31_0 := blk_frozen BK377.out 0
                have hfz31_1 := blk_frozen BK377.out 1
                have hfz31_2 := blk_frozen BK377.out 2
                have hfz31_3 := blk_frozen BK377.out 3
                have hfz31_4 := blk_frozen BK377.out 4
                have hfz31_5 := blk_frozen BK377.out 5
                have hfz31_6 := blk_frozen BK377.out 6
                have hfz31_7 := blk_frozen BK377.out 7
                have hfz31_8 := blk_frozen BK377.out 8
                have p380 : 0 ≤ ((ji22) : Int) := of_decide_eq_true (by first | (with_reducible assumption) | assumption)
                have q380 : (ji22) < (l0.length : Int) := of_decide_eq_true (by first | (with_reducible assumption) | assumption)
                obtain ⟨ad380, e380, hx380_0, hx380_1, hx380_2, hx380_3, hx380_4, hx380_5, hx380_6, hx380_7, hx380_8⟩ := at_T109 HR0.out (ji22) p380 q380
                (try rw [← Nbq25.out] at hx380_3)
                (try rw [← Nbq25.out] at hx380_8)
                obtain rfl : ad376 = ad380 := (by injection e380)
                replace hx380_0 := (HB.out.cell (World.block_lt_of_cell? w _ hx380_0)).trans hx380_0
                replace hx380_1 := (HB.out.cell (World.block_lt_of_cell? w _ hx380_1)).trans hx380_1
                replace hx380_2 := (HB.out.cell (World.block_lt_of_cell? w _ hx380_2)).trans hx380_2
                replace hx380_3 := (HB.out.cell (World.block_lt_of_cell? w _ hx380_3)).trans hx380_3
                replace hx380_4 := (HB.out.cell (World.block_lt_of_cell? w _ hx380_4)).trans hx380_4
                replace hx380_5 := (HB.out.cell (World.block_lt_of_cell? w _ hx380_5)).trans hx380_5
                replace hx380_6 := (HB.out.cell (World.block_lt_of_cell? w _ hx380_6)).trans hx380_6
                replace hx380_7 := (HB.out.cell (World.block_lt_of_cell? w _ hx380_7)).trans hx380_7
                replace hx380_8 := (HB.out.cell (World.block_lt_of_cell? w _ hx380_8)).trans hx380_8
                replace p380 := eq_true p380
                replace q380 := eq_true q380
                go_wp2_with (first | (go_at_call 83; (with_reducible refine (tripartiteref01_Ends.calls ((rd_T109 l0 x3_1).f4) false _ A28.out).mono ?_); rintro e w' ⟨rfl, ⟨nd, rfl⟩⟩))
                go_ret
                exact ⟨by first | rfl | (simp [errW_none, errW_some] <;> rfl) | (simp only [← hji22]; first | rfl | (simp [errW_none, errW_some] <;> rfl)) | (simp [*, errW_none, errW_some] <;> rfl), by repeat (first | (with_reducible first | exact HB.out | apply below_alloc | apply pw_below_drewN | apply below_drew1 | refine below_set ?_ GE377.out) | exact HB.out)⟩
              ·rw [if_neg c27] at H
               have c27b0 : decide ((wrap64 (x3_1 + 1)) < (l0.length : Int)) = false := decide_eq_false c27
               clear c27
               have H' := Aside0.mk H
               clear H
               have hcz32_0 : wc.cell? ⟨gb377, 0, none⟩ = some (.string ((rd_T109 l0 x3_1).f0)) := (blk_cell BK377.out 0).trans rfl
               have hcz32_1 : wc.cell? ⟨gb377, 1, none⟩ = some (.string ((rd_T109 l0 x3_1).f1)) := (blk_cell BK377.out 1).trans rfl
               have hcz32_2 : wc.cell? ⟨gb377, 2, none⟩ = some (.string ((rd_T109 l0 x3_1).f2)) := (blk_cell BK377.out 2).trans rfl
               have hcz32_3 : wc.cell? ⟨gb377, 3, none⟩ = some (.bool ((rd_T109 l0 x3_1).f3)) := (blk_cell BK377.out 3).trans rfl
               have hcz32_4 : wc.cell? ⟨gb377, 4, none⟩ = some (.string ((rd_T109 l0 x3_1).f4)) := (blk_cell BK377.out 4).trans rfl
               have hcz32_5 : wc.cell? ⟨gb377, 5, none⟩ = some (.string ((rd_T109 l0 x3_1).f5)) := (blk_cell BK377.out 5).trans rfl
               have hcz32_6 : wc.cell? ⟨gb377, 6, none⟩ = some (.string ((rd_T109 l0 x3_1).f6)) := (blk_cell BK377.out 6).trans rfl
               have hcz32_7 : wc.cell? ⟨gb377, 7, none⟩ = some (.string ((rd_T109 l0 x3_1).f7)) := (blk_cell BK377.out 7).trans rfl
               have hcz32_8 : wc.cell? ⟨gb377, 8, none⟩ = some (.bool ((rd_T109 l0 x3_1).f8)) := (blk_cell BK377.out 8).trans rfl
               have hfz32_0 := blk_frozen BK377.out 0
               have hfz32_1 := blk_frozen BK377.out 1
               have hfz32_2 := blk_frozen BK377.out 2
               have hfz32_3 := blk_frozen BK377.out 3
               have hfz32_4 := blk_frozen BK377.out 4
               have hfz32_5 := blk_frozen BK377.out 5
               have hfz32_6 := blk_frozen BK377.out 6
               have hfz32_7 := blk_frozen BK377.out 7
               have hfz32_8 := blk_frozen BK377.out 8
               have p380 : 0 ≤ ((ji22) : Int) := of_decide_eq_true (by first | (with_reducible assumption) | assumption)
               have q380 : (ji22) < (l0.length : Int) := of_decide_eq_true (by first | (with_reducible assumption) | assumption)
               obtain ⟨ad380, e380, hx380_0, hx380_1, hx380_2, hx380_3, hx380_4, hx380_5, hx380_6, hx380_7, hx380_8⟩ := at_T109 HR0.out (ji22) p380 q380
               (try rw [← Nbq25.out] at hx380_3)
               (try rw [← Nbq25.out] at hx380_8)
               obtain rfl : ad376 = ad380 := (by injection e380)
               replace hx380_0 := (HB.out.cell (World.block_lt_of_cell? w _ hx380_0)).trans hx380_0
               replace hx380_1 := (HB.out.cell (World.block_lt_of_cell? w _ hx380_1)).trans hx380_1
               replace hx380_2 := (HB.out.cell (World.block_lt_of_cell? w _ hx380_2)).trans hx380_2
               replace hx380_3 := (HB.out.cell (World.block_lt_of_cell? w _ hx380_3)).trans hx380_3
               replace hx380_4 := (HB.out.cell (World.block_lt_of_cell? w _ hx380_4)).trans hx380_4
               replace hx380_5 := (HB.out.cell (World.block_lt_of_cell? w _ hx380_5)).trans hx380_5
               replace hx380_6 := (HB.out.cell (World.block_lt_of_cell? w _ hx380_6)).trans hx380_6
               replace hx380_7 := (HB.out.cell (World.block_lt_of_cell? w _ hx380_7)).trans hx380_7
               replace hx380_8 := (HB.out.cell (World.block_lt_of_cell? w _ hx380_8)).trans hx380_8
               replace p380 := eq_true p380
               replace q380 := eq_true q380
               go_wp2
               go_roundg kj3
               case measure => have := HK1.out; have := HJ3.out; omega
               case rel => exact ⟨(wrap64 (x3_1 + 1)), (by first | rfl | (simp; done) | (simp [*]; done)), H', ⟨by have := HK1.out; have := HJ3.out; omega⟩, ⟨by repeat (first | (with_reducible first | exact HB.out | apply below_alloc | apply pw_below_drewN | apply below_drew1 | refine below_set ?_ GE377.out) | exact HB.out)⟩⟩
             ·replace c26 := Bool.eq_false_iff.mpr c26
              subst c26
              have H1 : (some false) = some r := by rw [if_neg (show ¬ (false = true) by decide)] at H; exact H
              clear H
              have H := H1
              clear H1
              obtain rfl := Option.some.inj H
              have hcz33_0 : wc.cell? ⟨gb377, 0, none⟩ = some (.string ((rd_T109 l0 x3_1).f0)) := (blk_cell BK377.out 0).trans rfl
              have hcz33_1 : wc.cell? ⟨gb377, 1, none⟩ = some (.string ((rd_T109 l0 x3_1).f1)) := (blk_cell BK377.out 1).trans rfl
              have hcz33_2 : wc.cell? ⟨gb377, 2, none⟩ = some (.string ((rd_T109 l0 x3_1).f2)) := (blk_cell BK377.out 2).trans rfl
              have hcz33_3 : wc.cell? ⟨gb377, 3, none⟩ = some (.bool ((rd_T109 l0 x3_1).f3)) := (blk_cell BK377.out 3).trans rfl
              have hcz33_4 : wc.cell? ⟨gb377, 4, none⟩ = some (.string ((rd_T109 l0 x3_1).f4)) := (blk_cell BK377.out 4).trans rfl
              have hcz33_5 : wc.cell? ⟨gb377, 5, none⟩ = some (.string ((rd_T109 l0 x3_1).f5)) := (blk_cell BK377.out 5).trans rfl
              have hcz33_6 : wc.cell? ⟨gb377, 6, none⟩ = some (.string ((rd_T109 l0 x3_1).f6)) := (blk_cell BK377.out 6).trans rfl
              have hcz33_7 : wc.cell? ⟨gb377, 7, none⟩ = some (.string ((rd_T109 l0 x3_1).f7)) := (blk_cell BK377.out 7).trans rfl
              have hcz33_8 : wc.cell? ⟨gb377, 8, none⟩ = some (.bool ((rd_T109 l0 x3_1).f8)) := (blk_cell BK377.out 8).trans rfl
              have hfz33_0 := blk_frozen BK377.out 0
              have hfz33_1 := blk_frozen BK377.out 1
              have hfz33_2 := blk_frozen BK377.out 2
              have hfz33_3 := blk_frozen BK377.out 3
              have hfz33_4 := blk_frozen BK377.out 4
              have hfz33_5 := blk_frozen BK377.out 5
              have hfz33_6 := blk_frozen BK377.out 6
              have hfz33_7 := blk_frozen BK377.out 7
              have hfz33_8 := blk_frozen BK377.out 8
              have p380 : 0 ≤ ((ji22) : Int) := of_decide_eq_true (by first | (with_reducible assumption) | assumption)
              have q380 : (ji22) < (l0.length : Int) := of_decide_eq_true (by first | (with_reducible assumption) | assumption)
              obtain ⟨ad380, e380, hx380_0, hx380_1, hx380_2, hx380_3, hx380_4, hx380_5, hx380_6, hx380_7, hx380_8⟩ := at_T109 HR0.out (ji22) p380 q380
              (try rw [← Nbq25.out] at hx380_3)
              (try rw [← Nbq25.out] at hx380_8)
              obtain rfl : ad376 = ad380 := (by injection e380)
              replace hx380_0 := (HB.out.cell (World.block_lt_of_cell? w _ hx380_0)).trans hx380_0
              replace hx380_1 := (HB.out.cell (World.block_lt_of_cell? w _ hx380_1)).trans hx380_1
              replace hx380_2 := (HB.out.cell (World.block_lt_of_cell? w _ hx380_2)).trans hx380_2
              replace hx380_3 := (HB.out.cell (World.block_lt_of_cell? w _ hx380_3)).trans hx380_3
              replace hx380_4 := (HB.out.cell (World.block_lt_of_cell? w _ hx380_4)).trans hx380_4
              replace hx380_5 := (HB.out.cell (World.block_lt_of_cell? w _ hx380_5)).trans hx380_5
              replace hx380_6 := (HB.out.cell (World.block_lt_of_cell? w _ hx380_6)).trans hx380_6
              replace hx380_7 := (HB.out.cell (World.block_lt_of_cell? w _ hx380_7)).trans hx380_7
              replace hx380_8 := (HB.out.cell (World.block_lt_of_cell? w _ hx380_8)).trans hx380_8
              replace p380 := eq_true p380
              replace q380 := eq_true q380
              go_wp2
              go_ret
              exact ⟨by first | rfl | (simp [errW_none, errW_some] <;> rfl) | (simp only [← hji22]; first | rfl | (simp [errW_none, errW_some] <;> rfl)) | (simp [*, errW_none, errW_some] <;> rfl), by repeat (first | (with_reducible first | exact HB.out | apply below_alloc | apply pw_below_drewN | apply below_drew1 | refine below_set ?_ GE377.out) | exact HB.out)⟩
            ·rw [if_neg c24] at H
             exact absurd H (by simp)
           ·rw [if_neg c23] at H
            exact absurd H (by simp)
          ·rw [if_neg c21] at H
           have c21b0 : decide (0 < x3_1) = false := decide_eq_false c21
           clear c21
           by_cases c34 : (wrap64 (x3_1 + 1)) < (l0.length : Int)
           ·rw [if_pos c34] at H
            have c34b0 : decide ((wrap64 (x3_1 + 1)) < (l0.length : Int)) = true := decide_eq_true c34
            clear c34
            replace H := Option.bind_eq_some_iff.mp H
            obtain ⟨t382, A350, H⟩ := H
            replace H : (if t382 = true then (tripartiteref07_Right.l0 kj3 l0 (wrap64 (x3_1 + 1))) else (some false)) = some r := H
            have A35 := Aside0.mk A350
            clear A350
            by_cases c36 : t382 = true
            ·subst c36
             have H1 : (tripartiteref07_Right.l0 kj3 l0 (wrap64 (x3_1 + 1))) = some r := by rw [if_pos rfl] at H; exact H
             clear H
             have H := H1
             clear H1
             have H' := Aside0.mk H
             clear H
             have hcz37_0 : wc.cell? ⟨gb377, 0, none⟩ = some (.string ((rd_T109 l0 x3_1).f0)) := (blk_cell BK377.out 0).trans rfl
             have hcz37_1 : wc.cell? ⟨gb377, 1, none⟩ = some (.string ((rd_T109 l0 x3_1).f1)) := (blk_cell BK377.out 1).trans rfl
             have hcz37_2 : wc.cell? ⟨gb377, 2, none⟩ = some (.string ((rd_T109 l0 x3_1).f2)) := (blk_cell BK377.out 2).trans rfl
             have hcz37_3 : wc.cell? ⟨gb377, 3, none⟩ = some (.bool ((rd_T109 l0 x3_1).f3)) := (blk_cell BK377.out 3).trans rfl
             have hcz37_4 : wc.cell? ⟨gb377, 4, none⟩ = some (.string ((rd_T109 l0 x3_1).f4)) := (blk_cell BK377.out 4).trans rfl
             have hcz37_5 : wc.cell? ⟨gb377, 5, none⟩ = some (.string ((rd_T109 l0 x3_1).f5)) := (blk_cell BK377.out 5).trans rfl
             have hcz37_6 : wc.cell? ⟨gb377, 6, none⟩ = some (.string ((rd_T109 l0 x3_1).f6)) := (blk_cell BK377.out 6).trans rfl
             have hcz37_7 : wc.cell? ⟨gb377, 7, none⟩ = some (.string ((rd_T109 l0 x3_1).f7)) := (blk_cell BK377.out 7).trans rfl
             have hcz37_8 : wc.cell? ⟨gb377, 8, none⟩ = some (.bool ((rd_T109 l0 x3_1).f8)) := (blk_cell BK377.out 8).trans rfl
             have hfz37_0 := blk_frozen BK377.out 0
             have hfz37_1 := blk_frozen BK377.out 1
             have hfz37_2 := blk_frozen BK377.out 2
             have hfz37_3 := blk_frozen BK377.out 3
             have hfz37_4 := blk_frozen BK377.out 4
             have hfz37_5 := blk_frozen BK377.out 5
             have hfz37_6 := blk_frozen BK377.out 6
             have hfz37_7 := blk_frozen BK377.out 7
             have hfz37_8 := blk_frozen BK377.out 8
             go_wp2_with (first | (go_at_call 83; (with_reducible refine (tripartiteref01_Ends.calls ((rd_T109 l0 x3_1).f4) true _ A35.out).mono ?_); rintro e w' ⟨rfl, ⟨nd, rfl⟩⟩))
             go_roundg kj3
             case measure => have := HK1.out; have := HJ3.out; omega
             case rel => exact ⟨(wrap64 (x3_1 + 1)), (by first | rfl | (simp; done) | (simp [*]; done)), H', ⟨by have := HK1.out; have := HJ3.out; omega⟩, ⟨by repeat (first | (with_reducible first | exact HB.out | apply below_alloc | apply pw_below_drewN | apply below_drew1 | refine below_set ?_ GE377.out) | exact HB.out)⟩⟩
            ·replace c36 := Bool.eq_false_iff.mpr c36
             subst c36
             have H1 : (some false) = some r := by rw [if_neg (show ¬ (false = true) by decide)] at H; exact H
             clear H
             have H := H1
             clear H1
             obtain rfl := Option.some.inj H
             have hcz38_0 : wc.cell? ⟨gb377, 0, none⟩ = some (.string ((rd_T109 l0 x3_1).f0)) := (blk_cell BK377.out 0).trans rfl
             have hcz38_1 : wc.cell? ⟨gb377, 1, none⟩ = some (.string ((rd_T109 l0 x3_1).f1)) := (blk_cell BK377.out 1).trans rfl
             have hcz38_2 : wc.cell? ⟨gb377, 2, none⟩ = some (.string ((rd_T109 l0 x3_1).f2)) := (blk_cell BK377.out 2).trans rfl
             have hcz38_3 : wc.cell? ⟨gb377, 3, none⟩ = some (.bool ((rd_T109 l0 x3_1).f3)) := (blk_cell BK377.out 3).trans rfl
             have hcz38_4 : wc.cell? ⟨gb377, 4, none⟩ = some (.string ((rd_T109 l0 x3_1).f4)) := (blk_cell BK377.out 4).trans rfl
             have hcz38_5 : wc.cell? ⟨gb377, 5, none⟩ = some (.string ((rd_T109 l0 x3_1).f5)) := (blk_cell BK377.out 5).trans rfl
             have hcz38_6 : wc.cell? ⟨gb377, 6, none⟩ = some (.string ((rd_T109 l0 x3_1).f6)) := (blk_cell BK377.out 6).trans rfl
             have hcz38_7 : wc.cell? ⟨gb377, 7, none⟩ = some (.string ((rd_T109 l0 x3_1).f7)) := (blk_cell BK377.out 7).trans rfl
             have hcz38_8 : wc.cell? ⟨gb377, 8, none⟩ = some (.bool ((rd_T109 l0 x3_1).f8)) := (blk_cell BK377.out 8).trans rfl
             have hfz38_0 := blk_frozen BK377.out 0
             have hfz38_1 := blk_frozen BK377.out 1
             have hfz38_2 := blk_frozen BK377.out 2
             have hfz38_3 := blk_frozen BK377.out 3
             have hfz38_4 := blk_frozen BK377.out 4
             have hfz38_5 := blk_frozen BK377.out 5
             have hfz38_6 := blk_frozen BK377.out 6
             have hfz38_7 := blk_frozen BK377.out 7
             have hfz38_8 := blk_frozen BK377.out 8
             go_wp2_with (first | (go_at_call 83; (with_reducible refine (tripartiteref01_Ends.calls ((rd_T109 l0 x3_1).f4) false _ A35.out).mono ?_); rintro e w' ⟨rfl, ⟨nd, rfl⟩⟩))
             go_ret
             exact ⟨by first | rfl | (simp [errW_none, errW_some] <;> rfl) | (simp [*, errW_none, errW_some] <;> rfl), by repeat (first | (with_reducible first | exact HB.out | apply below_alloc | apply pw_below_drewN | apply below_drew1 | refine below_set ?_ GE377.out) | exact HB.out)⟩
           ·rw [if_neg c34] at H
            have c34b0 : decide ((wrap64 (x3_1 + 1)) < (l0.length : Int)) = false := decide_eq_false c34
            clear c34
            have H' := Aside0.mk H
            clear H
            have hcz39_0 : wc.cell? ⟨gb377, 0, none⟩ = some (.string ((rd_T109 l0 x3_1).f0)) := (blk_cell BK377.out 0).trans rfl
            have hcz39_1 : wc.cell? ⟨gb377, 1, none⟩ = some (.string ((rd_T109 l0 x3_1).f1)) := (blk_cell BK377.out 1).trans rfl
            have hcz39_2 : wc.cell? ⟨gb377, 2, none⟩ = some (.string ((rd_T109 l0 x3_1).f2)) := (blk_cell BK377.out 2).trans rfl
            have hcz39_3 : wc.cell? ⟨gb377, 3, none⟩ = some (.bool ((rd_T109 l0 x3_1).f3)) := (blk_cell BK377.out 3).trans rfl
            have hcz39_4 : wc.cell? ⟨gb377, 4, none⟩ = some (.string ((rd_T109 l0 x3_1).f4)) := (blk_cell BK377.out 4).trans rfl
            have hcz39_5 : wc.cell? ⟨gb377, 5, none⟩ = some (.string ((rd_T109 l0 x3_1).f5)) := (blk_cell BK377.out 5).trans rfl
            have hcz39_6 : wc.cell? ⟨gb377, 6, none⟩ = some (.string ((rd_T109 l0 x3_1).f6)) := (blk_cell BK377.out 6).trans rfl
            have hcz39_7 : wc.cell? ⟨gb377, 7, none⟩ = some (.string ((rd_T109 l0 x3_1).f7)) := (blk_cell BK377.out 7).trans rfl
            have hcz39_8 : wc.cell? ⟨gb377, 8, none⟩ = some (.bool ((rd_T109 l0 x3_1).f8)) := (blk_cell BK377.out 8).trans rfl
            have hfz39_0 := blk_frozen BK377.out 0
            have hfz39_1 := blk_frozen BK377.out 1
            have hfz39_2 := blk_frozen BK377.out 2
            have hfz39_3 := blk_frozen BK377.out 3
            have hfz39_4 := blk_frozen BK377.out 4
            have hfz39_5 := blk_frozen BK377.out 5
            have hfz39_6 := blk_frozen BK377.out 6
            have hfz39_7 := blk_frozen BK377.out 7
            have hfz39_8 := blk_frozen BK377.out 8
            go_wp2
            go_roundg kj3
            case measure => have := HK1.out; have := HJ3.out; omega
            case rel => exact ⟨(wrap64 (x3_1 + 1)), (by first | rfl | (simp; done) | (simp [*]; done)), H', ⟨by have := HK1.out; have := HJ3.out; omega⟩, ⟨by repeat (first | (with_reducible first | exact HB.out | apply below_alloc | apply pw_below_drewN | apply below_drew1 | refine below_set ?_ GE377.out) | exact HB.out)⟩⟩
    ·rw [if_neg c3] at H
     exact absurd H (by simp)
   ·rw [if_neg c2] at H
    have c2b0 : decide (x3_1 < (l0.length : Int)) = false := decide_eq_false c2
    clear c2
    obtain rfl := Option.some.inj H
    go_wp2
    go_ret
    exact ⟨by first | rfl | (simp [errW_none, errW_some] <;> rfl) | (simp [*, errW_none, errW_some] <;> rfl), by repeat (first | (with_reducible first | exact HB.out | apply below_alloc | apply pw_below_drewN | apply below_drew1) | exact HB.out)⟩
end Go.Proofs.Ytfiamddinkokbaa.F
