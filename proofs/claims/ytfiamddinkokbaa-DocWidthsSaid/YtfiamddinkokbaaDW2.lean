/- Texts joined into one file (wip/tools/pack.py): Fn24, Fn65, Fn113, Fn84, Fn114, Fn142, Fn115, Fn72 -/
import Derived.Test.YtfiamddinkokbaaDW1
-- Written by a driver of ours (wip/tools/drive.py) out of the translation.
section
set_option linter.unusedVariables false
set_option linter.unusedSimpArgs false
namespace Go.Proofs.Ytfiamddinkokbaa.F
open Go.RowKit Go.Proofs.YtfiamddinkokbaaW.PrintWords Go.Proofs.YtfiamddinkokbaaW.PrintLast Go.Proofs.YtfiamddinkokbaaW.PrintMore
attribute [local go_sem] max2_int min2_int max_two min_two max_three min_three max_four min_four   -- for this text's walks alone
set_option linter.unusedVariables false
set_option linter.unusedSimpArgs false

attribute [local go_sem high] eqA106
/-! ### doc_Of: function 24 -/
def doc_Of.l0 : Nat → List (S106) → List (S106) → Int → Int → Option ((List (S106)))
  | 0, _, _, _, _ => none
  | k + 1, x3, x7, x8, x9 => if x9 < x8 then (if 0 ≤ x9 then (if x9 < (x7.length : Int) then (if (((((rd_T106 x7 x9).f0.f0).toList).isEmpty && ((((rd_T106 x7 x9).f0.f1).toList).isEmpty && ((((rd_T106 x7 x9).f0.f2).toList).isEmpty))) && (!((rd_T106 x7 x9).f1) && ((((rd_T106 x7 x9).f2).toList).isEmpty && ((((rd_T106 x7 x9).f3).toList).isEmpty && ((((rd_T106 x7 x9).f4).toList).isEmpty && ((((rd_T106 x7 x9).f5).toList).isEmpty && (!((rd_T106 x7 x9).f6)))))))) = true then (doc_Of.l0 k x3 x7 x8 (wrap64 (x9 + 1))) else ((doc_Part_isText.f ((rd_T106 x7 x9).f0.f0) ((rd_T106 x7 x9).f0.f1) ((rd_T106 x7 x9).f0.f2) ((rd_T106 x7 x9).f1) ((rd_T106 x7 x9).f2) ((rd_T106 x7 x9).f3) ((rd_T106 x7 x9).f4) ((rd_T106 x7 x9).f5) ((rd_T106 x7 x9).f6)).bind fun t116 => (if t116 = true then (if (x3.length : Int) > 0 then (if 0 ≤ (wrap64 ((x3.length : Int) - 1)) then (if (wrap64 ((x3.length : Int) - 1)) < (x3.length : Int) then ((doc_Part_isText.f ((rd_T106 x3 (wrap64 ((x3.length : Int) - 1))).f0.f0) ((rd_T106 x3 (wrap64 ((x3.length : Int) - 1))).f0.f1) ((rd_T106 x3 (wrap64 ((x3.length : Int) - 1))).f0.f2) ((rd_T106 x3 (wrap64 ((x3.length : Int) - 1))).f1) ((rd_T106 x3 (wrap64 ((x3.length : Int) - 1))).f2) ((rd_T106 x3 (wrap64 ((x3.length : Int) - 1))).f3) ((rd_T106 x3 (wrap64 ((x3.length : Int) - 1))).f4) ((rd_T106 x3 (wrap64 ((x3.length : Int) - 1))).f5) ((rd_T106 x3 (wrap64 ((x3.length : Int) - 1))).f6)).bind fun t118 => (if t118 = true then (if ((rd_T106 x3 (wrap64 ((x3.length : Int) - 1))).f2).size + ((rd_T106 x7 x9).f2).size ≤ 9223372036854775807 then (doc_Of.l0 k (x3.set ((wrap64 ((x3.length : Int) - 1)) : Int).toNat (⟨(⟨(rd_T106 x3 (wrap64 ((x3.length : Int) - 1))).f0.f0, (rd_T106 x3 (wrap64 ((x3.length : Int) - 1))).f0.f1, (rd_T106 x3 (wrap64 ((x3.length : Int) - 1))).f0.f2⟩ : S84), (rd_T106 x3 (wrap64 ((x3.length : Int) - 1))).f1, ((rd_T106 x3 (wrap64 ((x3.length : Int) - 1))).f2) ++ ((rd_T106 x7 x9).f2), (rd_T106 x3 (wrap64 ((x3.length : Int) - 1))).f3, (rd_T106 x3 (wrap64 ((x3.length : Int) - 1))).f4, (rd_T106 x3 (wrap64 ((x3.length : Int) - 1))).f5, (rd_T106 x3 (wrap64 ((x3.length : Int) - 1))).f6⟩ : S106)) x7 x8 (wrap64 (x9 + 1))) else (none)) else (if x3.length < 1099511627776 then (doc_Of.l0 k (x3 ++ [(⟨(⟨(rd_T106 x7 x9).f0.f0, (rd_T106 x7 x9).f0.f1, (rd_T106 x7 x9).f0.f2⟩ : S84), (rd_T106 x7 x9).f1, (rd_T106 x7 x9).f2, (rd_T106 x7 x9).f3, (rd_T106 x7 x9).f4, (rd_T106 x7 x9).f5, (rd_T106 x7 x9).f6⟩ : S106)]) x7 x8 (wrap64 (x9 + 1))) else (none)))) else (none)) else (none)) else (if x3.length < 1099511627776 then (doc_Of.l0 k (x3 ++ [(⟨(⟨(rd_T106 x7 x9).f0.f0, (rd_T106 x7 x9).f0.f1, (rd_T106 x7 x9).f0.f2⟩ : S84), (rd_T106 x7 x9).f1, (rd_T106 x7 x9).f2, (rd_T106 x7 x9).f3, (rd_T106 x7 x9).f4, (rd_T106 x7 x9).f5, (rd_T106 x7 x9).f6⟩ : S106)]) x7 x8 (wrap64 (x9 + 1))) else (none))) else (if x3.length < 1099511627776 then (doc_Of.l0 k (x3 ++ [(⟨(⟨(rd_T106 x7 x9).f0.f0, (rd_T106 x7 x9).f0.f1, (rd_T106 x7 x9).f0.f2⟩ : S84), (rd_T106 x7 x9).f1, (rd_T106 x7 x9).f2, (rd_T106 x7 x9).f3, (rd_T106 x7 x9).f4, (rd_T106 x7 x9).f5, (rd_T106 x7 x9).f6⟩ : S106)]) x7 x8 (wrap64 (x9 + 1))) else (none))))) else (none)) else (none)) else (some x3)
def doc_Of.f (k : Nat) (l0 : List (S106)) : Option ((List (S106))) := doc_Of.l0 k ([] : List (S106)) l0 (l0.length : Int) 0
theorem doc_Of.mono_l : ∀ k, (∀ y0 y1 y2 y3, LeO (doc_Of.l0 k y0 y1 y2 y3) (doc_Of.l0 (k + 1) y0 y1 y2 y3))
  | 0 => fun _ _ _ _ r h => by simp [doc_Of.l0] at h
  | k + 1 => by
    have ih0 := doc_Of.mono_l k
    · intro y0 y1 y2 y3
      unfold doc_Of.l0
      repeat' first
      | (with_reducible exact ih0 _ _ _ _)
      | (with_reducible exact LeO.refl _)
      | (with_reducible exact LeO.none _)
      | (with_reducible refine LeO.ite ?_ ?_)
      | (with_reducible refine LeO.bind ?_ (fun _ => ?_))
      | exact ih0 _ _ _ _
      | exact LeO.none _
      | refine LeO.ite ?_ ?_
      | refine LeO.bind ?_ (fun _ => ?_)
theorem doc_Of.mono : ∀ a0 k, LeO (doc_Of.f k a0) (doc_Of.f (k + 1) a0) := by
  intro a0 k
  have ih0 := doc_Of.mono_l k
  unfold doc_Of.f
  repeat' first
      | (with_reducible exact ih0 _ _ _ _)
      | (with_reducible exact LeO.refl _)
      | (with_reducible exact LeO.none _)
      | (with_reducible refine LeO.ite ?_ ?_)
      | (with_reducible refine LeO.bind ?_ (fun _ => ?_))
      | exact ih0 _ _ _ _
      | exact LeO.none _
      | refine LeO.ite ?_ ?_
      | refine LeO.bind ?_ (fun _ => ?_)
def doc_Of.T9 : Bool × List (List Nat × List Nat) := (true, [([], []), ([], []), ([1], [1]), ([0, 2], [0, 2]), ([3], [3]), ([4], [4]), ([], []), ([6], [6]), ([5, 7], [5, 7]), ([0, 2, 0, 1, 2, 3, 4, 5, 6, 7, 8], [0, 2]), ([9, 0, 1, 2, 3, 4, 5, 6, 7, 8], [9]), ([10, 8, 0, 1, 2, 3, 4, 5, 6, 7, 8], [8, 10])])
def doc_Of.B9 : List Nat := [0, 0, 2, 7, 15, 31, 0, 64, 255, 511, 1023, 2047]
theorem doc_Of.tab9 : rtab .any (opsOf Try.f24 9) = doc_Of.T9 := by kernel_rfl
theorem doc_Of.bits9 : waitsOk doc_Of.T9.2 doc_Of.B9 = true := by kernel_rfl
set_option maxHeartbeats 8000000 in
set_option maxRecDepth 100000 in
theorem doc_Of.calls (k : Nat) (A0 : Option Addr) (c0 : Nat) (l0 : List (S106)) (r : List (S106)) (w : World) (hr0 : Kd.C k106 w A0 l0.length l0) (hc0 : l0.length ≤ c0) (h : doc_Of.f k l0 = some r) :
    Calls Try.prog 24 #[.slice A0 l0.length c0] w fun e w' => ∃ v0_ : Value, e = .returned (v0_) ∧ Kd.R k106 106 w' w.heap.size (fun _ => True) v0_ r ∧ Below w.heap.size w w' := by
  have hu106 := Try.underlying106
  have HR0 := Aside0.mk hr0
  have HC0 := Aside0.mk hc0
  clear hr0 hc0
  have HB := Aside0.mk (Below.refl w.heap.size w)
  have H : (doc_Of.l0 k ([] : List (S106)) l0 (l0.length : Int) 0) = some r := h
  clear h
  have H' := Aside0.mk H
  clear H
  go_enter Try.func24, Try.ntmps24
  go_wp2
  go_loopg [3, 9] k (fun kq v3 v9 w' => ∃ (x3_1 : List (S106)) (x9_1 : Int), v9 = .int .i64 x9_1 ∧ Aside0 (doc_Of.l0 kq x3_1 l0 (l0.length : Int) x9_1 = some r) ∧ Aside0 (kq ≤ k) ∧ Aside0 (Kd.R k106 106 w' w.heap.size (fun _ => True) v3 x3_1) ∧ Aside0 (Below w.heap.size w w'))
  case atStart => exact ⟨(([] : List (S106))), (0), (by first | rfl | (simp; done) | (simp [*]; done)), H', ⟨Nat.le_refl _⟩, ⟨by first | exact Kd.R_nil _ _ _ _ _ | exact Kd.N_nil _ _ _ _ _ | exact Kd.V_nil _ _ _ _ _ | exact Kd.Q_nil _ _ _ _ _ | exact Kd.S_nil _ _ _ _ _⟩, ⟨by repeat (first | (with_reducible first | exact HB.out | apply below_alloc | apply pw_below_drewN | apply below_drew1) | exact HB.out)⟩⟩
  case round =>
    clear H'
    obtain ⟨x3_1, x9_1, rfl, HA, HK1, HO_3, HB⟩ := hrel
    cases gk with
    | zero => exact absurd HA.out (by simp [doc_Of.l0])
    | succ k1 =>
      have H := HA.out
      clear HA
      simp only [doc_Of.l0] at H
      by_cases c2 : x9_1 < (l0.length : Int)
      · rw [if_pos c2] at H
        have c2b0 : decide (x9_1 < (l0.length : Int)) = true := decide_eq_true c2
        clear c2
        by_cases c3 : 0 ≤ x9_1
        · rw [if_pos c3] at H
          have c3b0 : decide (0 ≤ x9_1) = true := decide_eq_true c3
          clear c3
          by_cases c4 : x9_1 < (l0.length : Int)
          · rw [if_pos c4] at H
            have c4b0 : decide (x9_1 < (l0.length : Int)) = true := decide_eq_true c4
            clear c4
            by_cases c5 : (((((rd_T106 l0 x9_1).f0.f0).toList).isEmpty && ((((rd_T106 l0 x9_1).f0.f1).toList).isEmpty && ((((rd_T106 l0 x9_1).f0.f2).toList).isEmpty))) && (!((rd_T106 l0 x9_1).f1) && ((((rd_T106 l0 x9_1).f2).toList).isEmpty && ((((rd_T106 l0 x9_1).f3).toList).isEmpty && ((((rd_T106 l0 x9_1).f4).toList).isEmpty && ((((rd_T106 l0 x9_1).f5).toList).isEmpty && (!((rd_T106 l0 x9_1).f6)))))))) = true
            · rw [if_pos c5] at H
              have c5b0 : (((((rd_T106 l0 x9_1).f0.f0).toList).isEmpty && ((((rd_T106 l0 x9_1).f0.f1).toList).isEmpty && ((((rd_T106 l0 x9_1).f0.f2).toList).isEmpty))) && (!((rd_T106 l0 x9_1).f1) && ((((rd_T106 l0 x9_1).f2).toList).isEmpty && ((((rd_T106 l0 x9_1).f3).toList).isEmpty && ((((rd_T106 l0 x9_1).f4).toList).isEmpty && ((((rd_T106 l0 x9_1).f5).toList).isEmpty && (!((rd_T106 l0 x9_1).f6)))))))) = true := c5
              clear c5
              have H' := Aside0.mk H
              clear H
              have p114 : 0 ≤ (x9_1 : Int) := of_decide_eq_true (by first | (with_reducible assumption) | assumption)
              have q114 : x9_1 < (l0.length : Int) := of_decide_eq_true (by first | (with_reducible assumption) | assumption)
              obtain ⟨ad114, e114, hx114_0, hx114_1, hx114_2, hx114_3, hx114_4, hx114_5, hx114_6, hx114_7, hx114_8⟩ := at_T106 HR0.out x9_1 p114 q114
              cases e114
              replace hx114_0 := (HB.out.cell (World.block_lt_of_cell? w _ hx114_0)).trans hx114_0
              replace hx114_1 := (HB.out.cell (World.block_lt_of_cell? w _ hx114_1)).trans hx114_1
              replace hx114_2 := (HB.out.cell (World.block_lt_of_cell? w _ hx114_2)).trans hx114_2
              replace hx114_3 := (HB.out.cell (World.block_lt_of_cell? w _ hx114_3)).trans hx114_3
              replace hx114_4 := (HB.out.cell (World.block_lt_of_cell? w _ hx114_4)).trans hx114_4
              replace hx114_5 := (HB.out.cell (World.block_lt_of_cell? w _ hx114_5)).trans hx114_5
              replace hx114_6 := (HB.out.cell (World.block_lt_of_cell? w _ hx114_6)).trans hx114_6
              replace hx114_7 := (HB.out.cell (World.block_lt_of_cell? w _ hx114_7)).trans hx114_7
              replace hx114_8 := (HB.out.cell (World.block_lt_of_cell? w _ hx114_8)).trans hx114_8
              replace p114 := eq_true p114
              replace q114 := eq_true q114
              go_wp2_with (first | ((with_reducible refine gate_dst (N := 5) rfl ?_); refine box_event ?hg (N := 5) ?hd (cs := #[.string (⟨#[]⟩ : ByteArray), .string (⟨#[]⟩ : ByteArray), .string (⟨#[]⟩ : ByteArray), .bool false, .string (⟨#[]⟩ : ByteArray), .string (⟨#[]⟩ : ByteArray), .string (⟨#[]⟩ : ByteArray), .string (⟨#[]⟩ : ByteArray), .bool false]) (t := 106) ?hr ?_; (case hd => rfl); (case hg => rfl); (case hr => first | (go_simp; done) | (go_simp; rfl)); intro gb115 hg w6 hbox hb; have n0_ := Aside0.mk (Kd.R_below (Kd.R_elderB (by (with_reducible repeat (first | apply Kd.R_alloc | apply Kd.R_drewN | apply Kd.R_drew)); exact HO_3.out) gb115 (Nat.le_of_eq hg.symm)) hb); have n1_ := Aside0.mk (below_step (by repeat (first | (with_reducible first | exact HB.out | apply below_alloc | apply pw_below_drewN | apply below_drew1) | exact HB.out)) hb); have n2_ := Aside0.mk (hbox); have n3_ := Aside0.mk ((by rw [hg]; exact (below_size (by repeat (first | (with_reducible first | exact HB.out | apply below_alloc | apply pw_below_drewN | apply below_drew1) | exact HB.out))) : w.heap.size ≤ gb115)); have n4_ := Aside0.mk ((by rw [hg]; exact (below_size (by repeat (first | (with_reducible first | exact HB.out | apply below_alloc | apply pw_below_drewN | apply below_drew1) | exact HB.out))) : w.heap.size ≤ gb115)); clear HO_3; clear HB; have HO_3 := n0_; have HB := n1_; have BK115 := n2_; have GW115 := n3_; have GE115 := n4_; clear n0_ n1_ n2_ n3_ n4_; clear hb hbox hg; have hcz7_0 : w6.cell? ⟨gb115, 0, none⟩ = some (.string (⟨#[]⟩ : ByteArray)) := (blk_cell BK115.out 0).trans rfl; have hcz7_1 : w6.cell? ⟨gb115, 1, none⟩ = some (.string (⟨#[]⟩ : ByteArray)) := (blk_cell BK115.out 1).trans rfl; have hcz7_2 : w6.cell? ⟨gb115, 2, none⟩ = some (.string (⟨#[]⟩ : ByteArray)) := (blk_cell BK115.out 2).trans rfl; have hcz7_3 : w6.cell? ⟨gb115, 3, none⟩ = some (.bool false) := (blk_cell BK115.out 3).trans rfl; have hcz7_4 : w6.cell? ⟨gb115, 4, none⟩ = some (.string (⟨#[]⟩ : ByteArray)) := (blk_cell BK115.out 4).trans rfl; have hcz7_5 : w6.cell? ⟨gb115, 5, none⟩ = some (.string (⟨#[]⟩ : ByteArray)) := (blk_cell BK115.out 5).trans rfl; have hcz7_6 : w6.cell? ⟨gb115, 6, none⟩ = some (.string (⟨#[]⟩ : ByteArray)) := (blk_cell BK115.out 6).trans rfl; have hcz7_7 : w6.cell? ⟨gb115, 7, none⟩ = some (.string (⟨#[]⟩ : ByteArray)) := (blk_cell BK115.out 7).trans rfl; have hcz7_8 : w6.cell? ⟨gb115, 8, none⟩ = some (.bool false) := (blk_cell BK115.out 8).trans rfl; have hfz7_0 := blk_frozen BK115.out 0; have hfz7_1 := blk_frozen BK115.out 1; have hfz7_2 := blk_frozen BK115.out 2; have hfz7_3 := blk_frozen BK115.out 3; have hfz7_4 := blk_frozen BK115.out 4; have hfz7_5 := blk_frozen BK115.out 5; have hfz7_6 := blk_frozen BK115.out 6; have hfz7_7 := blk_frozen BK115.out 7; have hfz7_8 := blk_frozen BK115.out 8; obtain ⟨Ao8, co8, eo8⟩ := Kd.R_slice HO_3.out; subst eo8))
              go_roundg k1
              case measure => have := HK1.out; omega
              case rel => exact ⟨(x3_1), (wrap64 (x9_1 + 1)), (by first | rfl | (simp; done) | (simp [*]; done)), H', ⟨by have := HK1.out; omega⟩, ⟨by (with_reducible repeat (first | apply Kd.R_alloc | apply Kd.R_drewN | apply Kd.R_drew)); exact Kd.R_mono (Kd.R_far (p := ⟨gb115, 8, none⟩) (Kd.R_far (p := ⟨gb115, 7, none⟩) (Kd.R_far (p := ⟨gb115, 6, none⟩) (Kd.R_far (p := ⟨gb115, 5, none⟩) (Kd.R_far (p := ⟨gb115, 4, none⟩) (Kd.R_far (p := ⟨gb115, 3, none⟩) (Kd.R_far (p := ⟨gb115, 2, none⟩) (Kd.R_far (p := ⟨gb115, 1, none⟩) (Kd.R_far (p := ⟨gb115, 0, none⟩) (Kd.R_mono HO_3.out (fun k_ hk => (⟨hk, hk.2⟩ : _ ∧ k_ ≠ gb115))) (fun _ hk => hk.2) (.string ((rd_T106 l0 x9_1).f0.f0))) (fun _ hk => hk.2) (.string ((rd_T106 l0 x9_1).f0.f1))) (fun _ hk => hk.2) (.string ((rd_T106 l0 x9_1).f0.f2))) (fun _ hk => hk.2) (.bool ((rd_T106 l0 x9_1).f1))) (fun _ hk => hk.2) (.string ((rd_T106 l0 x9_1).f2))) (fun _ hk => hk.2) (.string ((rd_T106 l0 x9_1).f3))) (fun _ hk => hk.2) (.string ((rd_T106 l0 x9_1).f4))) (fun _ hk => hk.2) (.string ((rd_T106 l0 x9_1).f5))) (fun _ hk => hk.2) (.bool ((rd_T106 l0 x9_1).f6))) (fun _ hk => trivial)⟩, ⟨by repeat (first | (with_reducible first | exact HB.out | apply below_alloc | apply pw_below_drewN | apply below_drew1 | refine below_set ?_ GE115.out) | exact HB.out)⟩⟩
            · rw [if_neg c5] at H
              have c5b0 : (((((rd_T106 l0 x9_1).f0.f0).toList).isEmpty && ((((rd_T106 l0 x9_1).f0.f1).toList).isEmpty && ((((rd_T106 l0 x9_1).f0.f2).toList).isEmpty))) && (!((rd_T106 l0 x9_1).f1) && ((((rd_T106 l0 x9_1).f2).toList).isEmpty && ((((rd_T106 l0 x9_1).f3).toList).isEmpty && ((((rd_T106 l0 x9_1).f4).toList).isEmpty && ((((rd_T106 l0 x9_1).f5).toList).isEmpty && (!((rd_T106 l0 x9_1).f6)))))))) = false := by simpa using c5
              clear c5
              replace H := Option.bind_eq_some_iff.mp H
              obtain ⟨t116, A90, H⟩ := H
              replace H : (if t116 = true then (if (x3_1.length : Int) > 0 then (if 0 ≤ (wrap64 ((x3_1.length : Int) - 1)) then (if (wrap64 ((x3_1.length : Int) - 1)) < (x3_1.length : Int) then ((doc_Part_isText.f ((rd_T106 x3_1 (wrap64 ((x3_1.length : Int) - 1))).f0.f0) ((rd_T106 x3_1 (wrap64 ((x3_1.length : Int) - 1))).f0.f1) ((rd_T106 x3_1 (wrap64 ((x3_1.length : Int) - 1))).f0.f2) ((rd_T106 x3_1 (wrap64 ((x3_1.length : Int) - 1))).f1) ((rd_T106 x3_1 (wrap64 ((x3_1.length : Int) - 1))).f2) ((rd_T106 x3_1 (wrap64 ((x3_1.length : Int) - 1))).f3) ((rd_T106 x3_1 (wrap64 ((x3_1.length : Int) - 1))).f4) ((rd_T106 x3_1 (wrap64 ((x3_1.length : Int) - 1))).f5) ((rd_T106 x3_1 (wrap64 ((x3_1.length : Int) - 1))).f6)).bind fun t118 => (if t118 = true then (if ((rd_T106 x3_1 (wrap64 ((x3_1.length : Int) - 1))).f2).size + ((rd_T106 l0 x9_1).f2).size ≤ 9223372036854775807 then (doc_Of.l0 k1 (x3_1.set ((wrap64 ((x3_1.length : Int) - 1)) : Int).toNat (⟨(⟨(rd_T106 x3_1 (wrap64 ((x3_1.length : Int) - 1))).f0.f0, (rd_T106 x3_1 (wrap64 ((x3_1.length : Int) - 1))).f0.f1, (rd_T106 x3_1 (wrap64 ((x3_1.length : Int) - 1))).f0.f2⟩ : S84), (rd_T106 x3_1 (wrap64 ((x3_1.length : Int) - 1))).f1, ((rd_T106 x3_1 (wrap64 ((x3_1.length : Int) - 1))).f2) ++ ((rd_T106 l0 x9_1).f2), (rd_T106 x3_1 (wrap64 ((x3_1.length : Int) - 1))).f3, (rd_T106 x3_1 (wrap64 ((x3_1.length : Int) - 1))).f4, (rd_T106 x3_1 (wrap64 ((x3_1.length : Int) - 1))).f5, (rd_T106 x3_1 (wrap64 ((x3_1.length : Int) - 1))).f6⟩ : S106)) l0 (l0.length : Int) (wrap64 (x9_1 + 1))) else (none)) else (if x3_1.length < 1099511627776 then (doc_Of.l0 k1 (x3_1 ++ [(⟨(⟨(rd_T106 l0 x9_1).f0.f0, (rd_T106 l0 x9_1).f0.f1, (rd_T106 l0 x9_1).f0.f2⟩ : S84), (rd_T106 l0 x9_1).f1, (rd_T106 l0 x9_1).f2, (rd_T106 l0 x9_1).f3, (rd_T106 l0 x9_1).f4, (rd_T106 l0 x9_1).f5, (rd_T106 l0 x9_1).f6⟩ : S106)]) l0 (l0.length : Int) (wrap64 (x9_1 + 1))) else (none)))) else (none)) else (none)) else (if x3_1.length < 1099511627776 then (doc_Of.l0 k1 (x3_1 ++ [(⟨(⟨(rd_T106 l0 x9_1).f0.f0, (rd_T106 l0 x9_1).f0.f1, (rd_T106 l0 x9_1).f0.f2⟩ : S84), (rd_T106 l0 x9_1).f1, (rd_T106 l0 x9_1).f2, (rd_T106 l0 x9_1).f3, (rd_T106 l0 x9_1).f4, (rd_T106 l0 x9_1).f5, (rd_T106 l0 x9_1).f6⟩ : S106)]) l0 (l0.length : Int) (wrap64 (x9_1 + 1))) else (none))) else (if x3_1.length < 1099511627776 then (doc_Of.l0 k1 (x3_1 ++ [(⟨(⟨(rd_T106 l0 x9_1).f0.f0, (rd_T106 l0 x9_1).f0.f1, (rd_T106 l0 x9_1).f0.f2⟩ : S84), (rd_T106 l0 x9_1).f1, (rd_T106 l0 x9_1).f2, (rd_T106 l0 x9_1).f3, (rd_T106 l0 x9_1).f4, (rd_T106 l0 x9_1).f5, (rd_T106 l0 x9_1).f6⟩ : S106)]) l0 (l0.length : Int) (wrap64 (x9_1 + 1))) else (none))) = some r := H
              have A9 := Aside0.mk A90
              clear A90
              by_cases c10 : t116 = true
              · subst c10
                have H1 : (if (x3_1.length : Int) > 0 then (if 0 ≤ (wrap64 ((x3_1.length : Int) - 1)) then (if (wrap64 ((x3_1.length : Int) - 1)) < (x3_1.length : Int) then ((doc_Part_isText.f ((rd_T106 x3_1 (wrap64 ((x3_1.length : Int) - 1))).f0.f0) ((rd_T106 x3_1 (wrap64 ((x3_1.length : Int) - 1))).f0.f1) ((rd_T106 x3_1 (wrap64 ((x3_1.length : Int) - 1))).f0.f2) ((rd_T106 x3_1 (wrap64 ((x3_1.length : Int) - 1))).f1) ((rd_T106 x3_1 (wrap64 ((x3_1.length : Int) - 1))).f2) ((rd_T106 x3_1 (wrap64 ((x3_1.length : Int) - 1))).f3) ((rd_T106 x3_1 (wrap64 ((x3_1.length : Int) - 1))).f4) ((rd_T106 x3_1 (wrap64 ((x3_1.length : Int) - 1))).f5) ((rd_T106 x3_1 (wrap64 ((x3_1.length : Int) - 1))).f6)).bind fun t118 => (if t118 = true then (if ((rd_T106 x3_1 (wrap64 ((x3_1.length : Int) - 1))).f2).size + ((rd_T106 l0 x9_1).f2).size ≤ 9223372036854775807 then (doc_Of.l0 k1 (x3_1.set ((wrap64 ((x3_1.length : Int) - 1)) : Int).toNat (⟨(⟨(rd_T106 x3_1 (wrap64 ((x3_1.length : Int) - 1))).f0.f0, (rd_T106 x3_1 (wrap64 ((x3_1.length : Int) - 1))).f0.f1, (rd_T106 x3_1 (wrap64 ((x3_1.length : Int) - 1))).f0.f2⟩ : S84), (rd_T106 x3_1 (wrap64 ((x3_1.length : Int) - 1))).f1, ((rd_T106 x3_1 (wrap64 ((x3_1.length : Int) - 1))).f2) ++ ((rd_T106 l0 x9_1).f2), (rd_T106 x3_1 (wrap64 ((x3_1.length : Int) - 1))).f3, (rd_T106 x3_1 (wrap64 ((x3_1.length : Int) - 1))).f4, (rd_T106 x3_1 (wrap64 ((x3_1.length : Int) - 1))).f5, (rd_T106 x3_1 (wrap64 ((x3_1.length : Int) - 1))).f6⟩ : S106)) l0 (l0.length : Int) (wrap64 (x9_1 + 1))) else (none)) else (if x3_1.length < 1099511627776 then (doc_Of.l0 k1 (x3_1 ++ [(⟨(⟨(rd_T106 l0 x9_1).f0.f0, (rd_T106 l0 x9_1).f0.f1, (rd_T106 l0 x9_1).f0.f2⟩ : S84), (rd_T106 l0 x9_1).f1, (rd_T106 l0 x9_1).f2, (rd_T106 l0 x9_1).f3, (rd_T106 l0 x9_1).f4, (rd_T106 l0 x9_1).f5, (rd_T106 l0 x9_1).f6⟩ : S106)]) l0 (l0.length : Int) (wrap64 (x9_1 + 1))) else (none)))) else (none)) else (none)) else (if x3_1.length < 1099511627776 then (doc_Of.l0 k1 (x3_1 ++ [(⟨(⟨(rd_T106 l0 x9_1).f0.f0, (rd_T106 l0 x9_1).f0.f1, (rd_T106 l0 x9_1).f0.f2⟩ : S84), (rd_T106 l0 x9_1).f1, (rd_T106 l0 x9_1).f2, (rd_T106 l0 x9_1).f3, (rd_T106 l0 x9_1).f4, (rd_T106 l0 x9_1).f5, (rd_T106 l0 x9_1).f6⟩ : S106)]) l0 (l0.length : Int) (wrap64 (x9_1 + 1))) else (none))) = some r := by rw [if_pos rfl] at H; exact H
                clear H
                have H := H1
                clear H1
                by_cases c11 : (x3_1.length : Int) > 0
                · rw [if_pos c11] at H
                  have c11b0 : decide (0 < (x3_1.length : Int)) = true := decide_eq_true c11
                  have c11b1 : decide (0 < x3_1.length) = true := decide_eq_true (by omega)
                  clear c11
                  obtain ⟨ji12, hji12⟩ : ∃ j_ : Int, (wrap64 ((x3_1.length : Int) - 1)) = j_ := ⟨_, rfl⟩
                  replace H : (if 0 ≤ (ji12) then (if (ji12) < (x3_1.length : Int) then ((doc_Part_isText.f ((rd_T106 x3_1 (ji12)).f0.f0) ((rd_T106 x3_1 (ji12)).f0.f1) ((rd_T106 x3_1 (ji12)).f0.f2) ((rd_T106 x3_1 (ji12)).f1) ((rd_T106 x3_1 (ji12)).f2) ((rd_T106 x3_1 (ji12)).f3) ((rd_T106 x3_1 (ji12)).f4) ((rd_T106 x3_1 (ji12)).f5) ((rd_T106 x3_1 (ji12)).f6)).bind fun t118 => (if t118 = true then (if ((rd_T106 x3_1 (ji12)).f2).size + ((rd_T106 l0 x9_1).f2).size ≤ 9223372036854775807 then (doc_Of.l0 k1 (x3_1.set ((ji12) : Int).toNat (⟨(⟨(rd_T106 x3_1 (ji12)).f0.f0, (rd_T106 x3_1 (ji12)).f0.f1, (rd_T106 x3_1 (ji12)).f0.f2⟩ : S84), (rd_T106 x3_1 (ji12)).f1, ((rd_T106 x3_1 (ji12)).f2) ++ ((rd_T106 l0 x9_1).f2), (rd_T106 x3_1 (ji12)).f3, (rd_T106 x3_1 (ji12)).f4, (rd_T106 x3_1 (ji12)).f5, (rd_T106 x3_1 (ji12)).f6⟩ : S106)) l0 (l0.length : Int) (wrap64 (x9_1 + 1))) else (none)) else (if x3_1.length < 1099511627776 then (doc_Of.l0 k1 (x3_1 ++ [(⟨(⟨(rd_T106 l0 x9_1).f0.f0, (rd_T106 l0 x9_1).f0.f1, (rd_T106 l0 x9_1).f0.f2⟩ : S84), (rd_T106 l0 x9_1).f1, (rd_T106 l0 x9_1).f2, (rd_T106 l0 x9_1).f3, (rd_T106 l0 x9_1).f4, (rd_T106 l0 x9_1).f5, (rd_T106 l0 x9_1).f6⟩ : S106)]) l0 (l0.length : Int) (wrap64 (x9_1 + 1))) else (none)))) else (none)) else (none)) = some r := by first | (rw [hji12] at H; exact H) | (simp only [hji12] at H ⊢; exact H)
                  (try rw [hji12] at A9)
                  have hji12w : (IntKind.i64.wrap ((x3_1.length : Int) - 1)) = ji12 := (i64_w _).trans hji12
                  by_cases c13 : 0 ≤ (ji12)
                  · rw [if_pos c13] at H
                    have c13b0 : decide (0 ≤ (ji12)) = true := decide_eq_true c13
                    clear c13
                    by_cases c14 : (ji12) < (x3_1.length : Int)
                    · rw [if_pos c14] at H
                      have c14b0 : decide ((ji12) < (x3_1.length : Int)) = true := decide_eq_true c14
                      clear c14
                      replace H := Option.bind_eq_some_iff.mp H
                      obtain ⟨t118, A150, H⟩ := H
                      replace H : (if t118 = true then (if ((rd_T106 x3_1 (ji12)).f2).size + ((rd_T106 l0 x9_1).f2).size ≤ 9223372036854775807 then (doc_Of.l0 k1 (x3_1.set ((ji12) : Int).toNat (⟨(⟨(rd_T106 x3_1 (ji12)).f0.f0, (rd_T106 x3_1 (ji12)).f0.f1, (rd_T106 x3_1 (ji12)).f0.f2⟩ : S84), (rd_T106 x3_1 (ji12)).f1, ((rd_T106 x3_1 (ji12)).f2) ++ ((rd_T106 l0 x9_1).f2), (rd_T106 x3_1 (ji12)).f3, (rd_T106 x3_1 (ji12)).f4, (rd_T106 x3_1 (ji12)).f5, (rd_T106 x3_1 (ji12)).f6⟩ : S106)) l0 (l0.length : Int) (wrap64 (x9_1 + 1))) else (none)) else (if x3_1.length < 1099511627776 then (doc_Of.l0 k1 (x3_1 ++ [(⟨(⟨(rd_T106 l0 x9_1).f0.f0, (rd_T106 l0 x9_1).f0.f1, (rd_T106 l0 x9_1).f0.f2⟩ : S84), (rd_T106 l0 x9_1).f1, (rd_T106 l0 x9_1).f2, (rd_T106 l0 x9_1).f3, (rd_T106 l0 x9_1).f4, (rd_T106 l0 x9_1).f5, (rd_T106 l0 x9_1).f6⟩ : S106)]) l0 (l0.length : Int) (wrap64 (x9_1 + 1))) else (none))) = some r := H
                      have A15 := Aside0.mk A150
                      clear A150
                      by_cases c16 : t118 = true
                      · subst c16
                        have H1 : (if ((rd_T106 x3_1 (ji12)).f2).size + ((rd_T106 l0 x9_1).f2).size ≤ 9223372036854775807 then (doc_Of.l0 k1 (x3_1.set ((ji12) : Int).toNat (⟨(⟨(rd_T106 x3_1 (ji12)).f0.f0, (rd_T106 x3_1 (ji12)).f0.f1, (rd_T106 x3_1 (ji12)).f0.f2⟩ : S84), (rd_T106 x3_1 (ji12)).f1, ((rd_T106 x3_1 (ji12)).f2) ++ ((rd_T106 l0 x9_1).f2), (rd_T106 x3_1 (ji12)).f3, (rd_T106 x3_1 (ji12)).f4, (rd_T106 x3_1 (ji12)).f5, (rd_T106 x3_1 (ji12)).f6⟩ : S106)) l0 (l0.length : Int) (wrap64 (x9_1 + 1))) else (none)) = some r := by rw [if_pos rfl] at H; exact H
                        clear H
                        have H := H1
                        clear H1
                        by_cases c17 : ((rd_T106 x3_1 (ji12)).f2).size + ((rd_T106 l0 x9_1).f2).size ≤ 9223372036854775807
                        · rw [if_pos c17] at H
                          have c17b0 := eq_true c17
                          have c17b1 : decide (((rd_T106 x3_1 (ji12)).f2).size + ((rd_T106 l0 x9_1).f2).size ≤ 9223372036854775807) = true := decide_eq_true c17
                          try have c17b2 : (9223372036854775807 < ((rd_T106 x3_1 (ji12)).f2).size + ((rd_T106 l0 x9_1).f2).size) = False := eq_false (Nat.not_lt.2 c17)
                          obtain ⟨y120, hy120⟩ : ∃ y_ : List (S106), y_ = (x3_1.set ((ji12) : Int).toNat (⟨(⟨(rd_T106 x3_1 (ji12)).f0.f0, (rd_T106 x3_1 (ji12)).f0.f1, (rd_T106 x3_1 (ji12)).f0.f2⟩ : S84), (rd_T106 x3_1 (ji12)).f1, ((rd_T106 x3_1 (ji12)).f2) ++ ((rd_T106 l0 x9_1).f2), (rd_T106 x3_1 (ji12)).f3, (rd_T106 x3_1 (ji12)).f4, (rd_T106 x3_1 (ji12)).f5, (rd_T106 x3_1 (ji12)).f6⟩ : S106)) := ⟨_, rfl⟩
                          replace H : (doc_Of.l0 k1 y120 l0 (l0.length : Int) (wrap64 (x9_1 + 1))) = some r := by first | (rw [hy120]; with_reducible exact H) | (have H2_ := (Option.bind_some _ _).symm.trans H; rw [hy120]; with_reducible exact H2_) | (have H2_ := (Option.bind_some _ _).symm.trans H; with_reducible exact H2_) | with_reducible exact H | (rw [hy120]; exact H) | exact H
                          have Ny120 := Aside0.mk hy120
                          clear hy120
                          have H' := Aside0.mk H
                          clear H
                          have p114 : 0 ≤ (x9_1 : Int) := of_decide_eq_true (by first | (with_reducible assumption) | assumption)
                          have q114 : x9_1 < (l0.length : Int) := of_decide_eq_true (by first | (with_reducible assumption) | assumption)
                          obtain ⟨ad114, e114, hx114_0, hx114_1, hx114_2, hx114_3, hx114_4, hx114_5, hx114_6, hx114_7, hx114_8⟩ := at_T106 HR0.out x9_1 p114 q114
                          cases e114
                          replace hx114_0 := (HB.out.cell (World.block_lt_of_cell? w _ hx114_0)).trans hx114_0
                          replace hx114_1 := (HB.out.cell (World.block_lt_of_cell? w _ hx114_1)).trans hx114_1
                          replace hx114_2 := (HB.out.cell (World.block_lt_of_cell? w _ hx114_2)).trans hx114_2
                          replace hx114_3 := (HB.out.cell (World.block_lt_of_cell? w _ hx114_3)).trans hx114_3
                          replace hx114_4 := (HB.out.cell (World.block_lt_of_cell? w _ hx114_4)).trans hx114_4
                          replace hx114_5 := (HB.out.cell (World.block_lt_of_cell? w _ hx114_5)).trans hx114_5
                          replace hx114_6 := (HB.out.cell (World.block_lt_of_cell? w _ hx114_6)).trans hx114_6
                          replace hx114_7 := (HB.out.cell (World.block_lt_of_cell? w _ hx114_7)).trans hx114_7
                          replace hx114_8 := (HB.out.cell (World.block_lt_of_cell? w _ hx114_8)).trans hx114_8
                          replace p114 := eq_true p114
                          replace q114 := eq_true q114
                          try go_wp2_with (first | ((with_reducible refine gate_dst (N := 5) rfl ?_); refine box_event ?hg (N := 5) ?hd (cs := #[.string (⟨#[]⟩ : ByteArray), .string (⟨#[]⟩ : ByteArray), .string (⟨#[]⟩ : ByteArray), .bool false, .string (⟨#[]⟩ : ByteArray), .string (⟨#[]⟩ : ByteArray), .string (⟨#[]⟩ : ByteArray), .string (⟨#[]⟩ : ByteArray), .bool false]) (t := 106) ?hr ?_; (case hd => rfl); (case hg => rfl); (case hr => first | (go_simp; done) | (go_simp; rfl)); intro gb115 hg w19 hbox hb; have n0_ := Aside0.mk (Kd.R_below (Kd.R_elderB (by (with_reducible repeat (first | apply Kd.R_alloc | apply Kd.R_drewN | apply Kd.R_drew)); exact HO_3.out) gb115 (Nat.le_of_eq hg.symm)) hb); have n1_ := Aside0.mk (below_step (by repeat (first | (with_reducible first | exact HB.out | apply below_alloc | apply pw_below_drewN | apply below_drew1) | exact HB.out)) hb); have n2_ := Aside0.mk (hbox); have n3_ := Aside0.mk ((by rw [hg]; exact (below_size (by repeat (first | (with_reducible first | exact HB.out | apply below_alloc | apply pw_below_drewN | apply below_drew1) | exact HB.out))) : w.heap.size ≤ gb115)); have n4_ := Aside0.mk ((by rw [hg]; exact (below_size (by repeat (first | (with_reducible first | exact HB.out | apply below_alloc | apply pw_below_drewN | apply below_drew1) | exact HB.out))) : w.heap.size ≤ gb115)); clear HO_3; clear HB; have HO_3 := n0_; have HB := n1_; have BK115 := n2_; have GW115 := n3_; have GE115 := n4_; clear n0_ n1_ n2_ n3_ n4_; clear hb hbox hg; have hcz20_0 : w19.cell? ⟨gb115, 0, none⟩ = some (.string (⟨#[]⟩ : ByteArray)) := (blk_cell BK115.out 0).trans rfl; have hcz20_1 : w19.cell? ⟨gb115, 1, none⟩ = some (.string (⟨#[]⟩ : ByteArray)) := (blk_cell BK115.out 1).trans rfl; have hcz20_2 : w19.cell? ⟨gb115, 2, none⟩ = some (.string (⟨#[]⟩ : ByteArray)) := (blk_cell BK115.out 2).trans rfl; have hcz20_3 : w19.cell? ⟨gb115, 3, none⟩ = some (.bool false) := (blk_cell BK115.out 3).trans rfl; have hcz20_4 : w19.cell? ⟨gb115, 4, none⟩ = some (.string (⟨#[]⟩ : ByteArray)) := (blk_cell BK115.out 4).trans rfl; have hcz20_5 : w19.cell? ⟨gb115, 5, none⟩ = some (.string (⟨#[]⟩ : ByteArray)) := (blk_cell BK115.out 5).trans rfl; have hcz20_6 : w19.cell? ⟨gb115, 6, none⟩ = some (.string (⟨#[]⟩ : ByteArray)) := (blk_cell BK115.out 6).trans rfl; have hcz20_7 : w19.cell? ⟨gb115, 7, none⟩ = some (.string (⟨#[]⟩ : ByteArray)) := (blk_cell BK115.out 7).trans rfl; have hcz20_8 : w19.cell? ⟨gb115, 8, none⟩ = some (.bool false) := (blk_cell BK115.out 8).trans rfl; have hfz20_0 := blk_frozen BK115.out 0; have hfz20_1 := blk_frozen BK115.out 1; have hfz20_2 := blk_frozen BK115.out 2; have hfz20_3 := blk_frozen BK115.out 3; have hfz20_4 := blk_frozen BK115.out 4; have hfz20_5 := blk_frozen BK115.out 5; have hfz20_6 := blk_frozen BK115.out 6; have hfz20_7 := blk_frozen BK115.out 7; have hfz20_8 := blk_frozen BK115.out 8; obtain ⟨Ao21, co21, eo21⟩ := Kd.R_slice HO_3.out; subst eo21) | ((with_reducible refine gate_callee (f := 75) rfl ?_); refine goesL_ (some 25) rfl rfl Try.func75 (by kernel_rfl) rfl #[.agg #[.string ((rd_T106 l0 x9_1).f0.f0), .string ((rd_T106 l0 x9_1).f0.f1), .string ((rd_T106 l0 x9_1).f0.f2), .bool ((rd_T106 l0 x9_1).f1), .string ((rd_T106 l0 x9_1).f2), .string ((rd_T106 l0 x9_1).f3), .string ((rd_T106 l0 x9_1).f4), .string ((rd_T106 l0 x9_1).f5), .bool ((rd_T106 l0 x9_1).f6)]] rfl (by (try simp only [List.map_toArray, List.map_cons, List.map_nil]); first | done | rfl | (simp only [List.length_drop, List.length_take]; rfl)) ?_; (with_reducible refine (doc_Part_isText.calls ((rd_T106 l0 x9_1).f0.f0) ((rd_T106 l0 x9_1).f0.f1) ((rd_T106 l0 x9_1).f0.f2) ((rd_T106 l0 x9_1).f1) ((rd_T106 l0 x9_1).f2) ((rd_T106 l0 x9_1).f3) ((rd_T106 l0 x9_1).f4) ((rd_T106 l0 x9_1).f5) ((rd_T106 l0 x9_1).f6) true _ A9.out).mono ?_); rintro e w22 ⟨rfl, hb⟩; refine ⟨_, rfl, ?_⟩; have n0_ := Aside0.mk (Kd.R_below (by (with_reducible repeat (first | apply Kd.R_alloc | apply Kd.R_drewN | apply Kd.R_drew)); exact (Kd.R_mono (Kd.R_far (p := ⟨gb115, 8, none⟩) (Kd.R_far (p := ⟨gb115, 7, none⟩) (Kd.R_far (p := ⟨gb115, 6, none⟩) (Kd.R_far (p := ⟨gb115, 5, none⟩) (Kd.R_far (p := ⟨gb115, 4, none⟩) (Kd.R_far (p := ⟨gb115, 3, none⟩) (Kd.R_far (p := ⟨gb115, 2, none⟩) (Kd.R_far (p := ⟨gb115, 1, none⟩) (Kd.R_far (p := ⟨gb115, 0, none⟩) (Kd.R_mono HO_3.out (fun k_ hk => (⟨hk, hk.2⟩ : _ ∧ k_ ≠ gb115))) (fun _ hk => hk.2) (.string ((rd_T106 l0 x9_1).f0.f0))) (fun _ hk => hk.2) (.string ((rd_T106 l0 x9_1).f0.f1))) (fun _ hk => hk.2) (.string ((rd_T106 l0 x9_1).f0.f2))) (fun _ hk => hk.2) (.bool ((rd_T106 l0 x9_1).f1))) (fun _ hk => hk.2) (.string ((rd_T106 l0 x9_1).f2))) (fun _ hk => hk.2) (.string ((rd_T106 l0 x9_1).f3))) (fun _ hk => hk.2) (.string ((rd_T106 l0 x9_1).f4))) (fun _ hk => hk.2) (.string ((rd_T106 l0 x9_1).f5))) (fun _ hk => hk.2) (.bool ((rd_T106 l0 x9_1).f6))) (fun _ h_ => h_.1))) hb); have n1_ := Aside0.mk (blk_below (g := gb115) (o := .cells #[.string ((rd_T106 l0 x9_1).f0.f0), .string ((rd_T106 l0 x9_1).f0.f1), .string ((rd_T106 l0 x9_1).f0.f2), .bool ((rd_T106 l0 x9_1).f1), .string ((rd_T106 l0 x9_1).f2), .string ((rd_T106 l0 x9_1).f3), .string ((rd_T106 l0 x9_1).f4), .string ((rd_T106 l0 x9_1).f5), .bool ((rd_T106 l0 x9_1).f6)] 106 (0, 0)) (by (with_reducible repeat (first | refine blk_drewN ?_ _ | refine blk_drew ?_ | refine blk_alloc ?_ _)); refine blk_put (cs := #[.string ((rd_T106 l0 x9_1).f0.f0), .string ((rd_T106 l0 x9_1).f0.f1), .string ((rd_T106 l0 x9_1).f0.f2), .bool ((rd_T106 l0 x9_1).f1), .string ((rd_T106 l0 x9_1).f2), .string ((rd_T106 l0 x9_1).f3), .string ((rd_T106 l0 x9_1).f4), .string ((rd_T106 l0 x9_1).f5), .bool false]) ?_ 8 _ rfl; (with_reducible repeat (first | refine blk_drewN ?_ _ | refine blk_drew ?_ | refine blk_alloc ?_ _)); refine blk_put (cs := #[.string ((rd_T106 l0 x9_1).f0.f0), .string ((rd_T106 l0 x9_1).f0.f1), .string ((rd_T106 l0 x9_1).f0.f2), .bool ((rd_T106 l0 x9_1).f1), .string ((rd_T106 l0 x9_1).f2), .string ((rd_T106 l0 x9_1).f3), .string ((rd_T106 l0 x9_1).f4), .string (⟨#[]⟩ : ByteArray), .bool false]) ?_ 7 _ rfl; (with_reducible repeat (first | refine blk_drewN ?_ _ | refine blk_drew ?_ | refine blk_alloc ?_ _)); refine blk_put (cs := #[.string ((rd_T106 l0 x9_1).f0.f0), .string ((rd_T106 l0 x9_1).f0.f1), .string ((rd_T106 l0 x9_1).f0.f2), .bool ((rd_T106 l0 x9_1).f1), .string ((rd_T106 l0 x9_1).f2), .string ((rd_T106 l0 x9_1).f3), .string (⟨#[]⟩ : ByteArray), .string (⟨#[]⟩ : ByteArray), .bool false]) ?_ 6 _ rfl; (with_reducible repeat (first | refine blk_drewN ?_ _ | refine blk_drew ?_ | refine blk_alloc ?_ _)); refine blk_put (cs := #[.string ((rd_T106 l0 x9_1).f0.f0), .string ((rd_T106 l0 x9_1).f0.f1), .string ((rd_T106 l0 x9_1).f0.f2), .bool ((rd_T106 l0 x9_1).f1), .string ((rd_T106 l0 x9_1).f2), .string (⟨#[]⟩ : ByteArray), .string (⟨#[]⟩ : ByteArray), .string (⟨#[]⟩ : ByteArray), .bool false]) ?_ 5 _ rfl; (with_reducible repeat (first | refine blk_drewN ?_ _ | refine blk_drew ?_ | refine blk_alloc ?_ _)); refine blk_put (cs := #[.string ((rd_T106 l0 x9_1).f0.f0), .string ((rd_T106 l0 x9_1).f0.f1), .string ((rd_T106 l0 x9_1).f0.f2), .bool ((rd_T106 l0 x9_1).f1), .string (⟨#[]⟩ : ByteArray), .string (⟨#[]⟩ : ByteArray), .string (⟨#[]⟩ : ByteArray), .string (⟨#[]⟩ : ByteArray), .bool false]) ?_ 4 _ rfl; (with_reducible repeat (first | refine blk_drewN ?_ _ | refine blk_drew ?_ | refine blk_alloc ?_ _)); refine blk_put (cs := #[.string ((rd_T106 l0 x9_1).f0.f0), .string ((rd_T106 l0 x9_1).f0.f1), .string ((rd_T106 l0 x9_1).f0.f2), .bool false, .string (⟨#[]⟩ : ByteArray), .string (⟨#[]⟩ : ByteArray), .string (⟨#[]⟩ : ByteArray), .string (⟨#[]⟩ : ByteArray), .bool false]) ?_ 3 _ rfl; (with_reducible repeat (first | refine blk_drewN ?_ _ | refine blk_drew ?_ | refine blk_alloc ?_ _)); refine blk_put (cs := #[.string ((rd_T106 l0 x9_1).f0.f0), .string ((rd_T106 l0 x9_1).f0.f1), .string (⟨#[]⟩ : ByteArray), .bool false, .string (⟨#[]⟩ : ByteArray), .string (⟨#[]⟩ : ByteArray), .string (⟨#[]⟩ : ByteArray), .string (⟨#[]⟩ : ByteArray), .bool false]) ?_ 2 _ rfl; (with_reducible repeat (first | refine blk_drewN ?_ _ | refine blk_drew ?_ | refine blk_alloc ?_ _)); refine blk_put (cs := #[.string ((rd_T106 l0 x9_1).f0.f0), .string (⟨#[]⟩ : ByteArray), .string (⟨#[]⟩ : ByteArray), .bool false, .string (⟨#[]⟩ : ByteArray), .string (⟨#[]⟩ : ByteArray), .string (⟨#[]⟩ : ByteArray), .string (⟨#[]⟩ : ByteArray), .bool false]) ?_ 1 _ rfl; (with_reducible repeat (first | refine blk_drewN ?_ _ | refine blk_drew ?_ | refine blk_alloc ?_ _)); refine blk_put (cs := #[.string (⟨#[]⟩ : ByteArray), .string (⟨#[]⟩ : ByteArray), .string (⟨#[]⟩ : ByteArray), .bool false, .string (⟨#[]⟩ : ByteArray), .string (⟨#[]⟩ : ByteArray), .string (⟨#[]⟩ : ByteArray), .string (⟨#[]⟩ : ByteArray), .bool false]) ?_ 0 _ rfl; (with_reducible repeat (first | refine blk_drewN ?_ _ | refine blk_drew ?_ | refine blk_alloc ?_ _)); exact BK115.out) hb); have n2_ := Aside0.mk (below_step (by repeat (first | (with_reducible first | exact HB.out | apply below_alloc | apply pw_below_drewN | apply below_drew1 | refine below_set ?_ GE115.out) | exact HB.out)) hb); clear HO_3; clear BK115; clear HB; have HO_3 := n0_; have BK115 := n1_; have HB := n2_; clear n0_ n1_ n2_; (try clear hb); (try clear hb2); (try clear hk); (try clear hi); have p117 : 0 ≤ ((ji12) : Int) := of_decide_eq_true (by first | (with_reducible assumption) | assumption); have q117 : (ji12) < (x3_1.length : Int) := of_decide_eq_true (by first | (with_reducible assumption) | assumption); obtain ⟨ad117, e117, hx117_0, hx117_1, hx117_2, hx117_3, hx117_4, hx117_5, hx117_6, hx117_7, hx117_8⟩ := at_T106 (Kd.R_reads' HO_3.out).2.2 (ji12) p117 q117; cases e117; replace p117 := eq_true p117; replace q117 := eq_true q117) | (go_at_call 75; (with_reducible refine (doc_Part_isText.calls ((rd_T106 x3_1 (ji12)).f0.f0) ((rd_T106 x3_1 (ji12)).f0.f1) ((rd_T106 x3_1 (ji12)).f0.f2) ((rd_T106 x3_1 (ji12)).f1) ((rd_T106 x3_1 (ji12)).f2) ((rd_T106 x3_1 (ji12)).f3) ((rd_T106 x3_1 (ji12)).f4) ((rd_T106 x3_1 (ji12)).f5) ((rd_T106 x3_1 (ji12)).f6) true _ A15.out).mono ?_); rintro e w23 ⟨rfl, hb⟩; have n0_ := Aside0.mk (Kd.R_below (by (with_reducible repeat (first | apply Kd.R_alloc | apply Kd.R_drewN | apply Kd.R_drew)); exact HO_3.out) hb); have n1_ := Aside0.mk (blk_below (g := gb115) (o := .cells #[.string ((rd_T106 l0 x9_1).f0.f0), .string ((rd_T106 l0 x9_1).f0.f1), .string ((rd_T106 l0 x9_1).f0.f2), .bool ((rd_T106 l0 x9_1).f1), .string ((rd_T106 l0 x9_1).f2), .string ((rd_T106 l0 x9_1).f3), .string ((rd_T106 l0 x9_1).f4), .string ((rd_T106 l0 x9_1).f5), .bool ((rd_T106 l0 x9_1).f6)] 106 (0, 0)) (by (with_reducible repeat (first | refine blk_drewN ?_ _ | refine blk_drew ?_ | refine blk_alloc ?_ _)); exact BK115.out) hb); have n2_ := Aside0.mk (below_step (by repeat (first | (with_reducible first | exact HB.out | apply below_alloc | apply pw_below_drewN | apply below_drew1 | refine below_set ?_ GE115.out) | exact HB.out)) hb); clear HO_3; clear BK115; clear HB; have HO_3 := n0_; have BK115 := n1_; have HB := n2_; clear n0_ n1_ n2_; (try clear hb); (try clear hb2); (try clear hk); (try clear hi)))
                          have n0_ := Aside0.mk (Kd.R_drew HO_3.out)
                          have n1_ := Aside0.mk (blk_drew BK115.out)
                          have n2_ := Aside0.mk (below_drew1 HB.out)
                          clear HO_3
                          clear BK115
                          clear HB
                          have HO_3 := n0_
                          have BK115 := n1_
                          have HB := n2_
                          clear n0_ n1_ n2_
                          have p119 : 0 ≤ ((ji12) : Int) := of_decide_eq_true (by first | (with_reducible assumption) | assumption)
                          have q119 : (ji12) < (x3_1.length : Int) := of_decide_eq_true (by first | (with_reducible assumption) | assumption)
                          obtain ⟨ad119, e119, hx119_0, hx119_1, hx119_2, hx119_3, hx119_4, hx119_5, hx119_6, hx119_7, hx119_8⟩ := at_T106 (Kd.R_reads' HO_3.out).2.2 (ji12) p119 q119
                          obtain rfl : ad117 = ad119 := (by injection e119)
                          replace p119 := eq_true p119
                          replace q119 := eq_true q119
                          have p18 : 0 ≤ ((ji12) : Int) := of_decide_eq_true (by first | (with_reducible assumption) | assumption)
                          have q18 : ((ji12) : Int) < ((x3_1.length : Int) : Int) := of_decide_eq_true (by first | (with_reducible assumption) | assumption)
                          obtain ⟨go18, co18, eo18, gb18, gl18, cl18, HG18⟩ := Kd.R_form HO_3.out (by omega)
                          (first | cases eo18 | (injection eo18 with ea_ en_ ec_; (first | subst ea_ | (injection ea_ with ea_; subst ea_)); subst ec_; clear en_))
                          have GB18 := Aside0.mk gb18
                          have GG18 := Aside0.mk HG18
                          clear gb18 gl18 HG18
                          (first | simp only [add_plain] at hx117_0 | skip)
                          (first | simp only [add_plain] at hx117_1 | skip)
                          (first | simp only [add_plain] at hx117_2 | skip)
                          (first | simp only [add_plain] at hx117_3 | skip)
                          (first | simp only [add_plain] at hx117_4 | skip)
                          (first | simp only [add_plain] at hx117_5 | skip)
                          (first | simp only [add_plain] at hx117_6 | skip)
                          (first | simp only [add_plain] at hx117_7 | skip)
                          (first | simp only [add_plain] at hx117_8 | skip)
                          (first | simp only [add_plain] at hx119_0 | skip)
                          (first | simp only [add_plain] at hx119_1 | skip)
                          (first | simp only [add_plain] at hx119_2 | skip)
                          (first | simp only [add_plain] at hx119_3 | skip)
                          (first | simp only [add_plain] at hx119_4 | skip)
                          (first | simp only [add_plain] at hx119_5 | skip)
                          (first | simp only [add_plain] at hx119_6 | skip)
                          (first | simp only [add_plain] at hx119_7 | skip)
                          (first | simp only [add_plain] at hx119_8 | skip)
                          obtain ⟨ce18, hcl18, hM18, hcc18, hfr18⟩ := Kd.R_elem HO_3.out z106 ((ji12) : Int) p18 q18
                          obtain rfl := k106_openM hM18
                          have hx18_0 : World.cell? _ ⟨go18, ((ji12) : Int).toNat * 9, none⟩ = some (.string ((rd_T106 x3_1 (ji12)).f0.f0)) := hcc18 0 _ rfl
                          have hx18_1 : World.cell? _ ⟨go18, ((ji12) : Int).toNat * 9 + 1, none⟩ = some (.string ((rd_T106 x3_1 (ji12)).f0.f1)) := hcc18 1 _ rfl
                          have hx18_2 : World.cell? _ ⟨go18, ((ji12) : Int).toNat * 9 + 2, none⟩ = some (.string ((rd_T106 x3_1 (ji12)).f0.f2)) := hcc18 2 _ rfl
                          have hx18_3 : World.cell? _ ⟨go18, ((ji12) : Int).toNat * 9 + 3, none⟩ = some (.bool ((rd_T106 x3_1 (ji12)).f1)) := hcc18 3 _ rfl
                          have hx18_4 : World.cell? _ ⟨go18, ((ji12) : Int).toNat * 9 + 4, none⟩ = some (.string ((rd_T106 x3_1 (ji12)).f2)) := hcc18 4 _ rfl
                          have hx18_5 : World.cell? _ ⟨go18, ((ji12) : Int).toNat * 9 + 5, none⟩ = some (.string ((rd_T106 x3_1 (ji12)).f3)) := hcc18 5 _ rfl
                          have hx18_6 : World.cell? _ ⟨go18, ((ji12) : Int).toNat * 9 + 6, none⟩ = some (.string ((rd_T106 x3_1 (ji12)).f4)) := hcc18 6 _ rfl
                          have hx18_7 : World.cell? _ ⟨go18, ((ji12) : Int).toNat * 9 + 7, none⟩ = some (.string ((rd_T106 x3_1 (ji12)).f5)) := hcc18 7 _ rfl
                          have hx18_8 : World.cell? _ ⟨go18, ((ji12) : Int).toNat * 9 + 8, none⟩ = some (.bool ((rd_T106 x3_1 (ji12)).f6)) := hcc18 8 _ rfl
                          have hf18_0 : World.frozen? _ ⟨go18, ((ji12) : Int).toNat * 9, none⟩ = false := hfr18 0
                          have hf18_1 : World.frozen? _ ⟨go18, ((ji12) : Int).toNat * 9 + 1, none⟩ = false := hfr18 1
                          have hf18_2 : World.frozen? _ ⟨go18, ((ji12) : Int).toNat * 9 + 2, none⟩ = false := hfr18 2
                          have hf18_3 : World.frozen? _ ⟨go18, ((ji12) : Int).toNat * 9 + 3, none⟩ = false := hfr18 3
                          have hf18_4 : World.frozen? _ ⟨go18, ((ji12) : Int).toNat * 9 + 4, none⟩ = false := hfr18 4
                          have hf18_5 : World.frozen? _ ⟨go18, ((ji12) : Int).toNat * 9 + 5, none⟩ = false := hfr18 5
                          have hf18_6 : World.frozen? _ ⟨go18, ((ji12) : Int).toNat * 9 + 6, none⟩ = false := hfr18 6
                          have hf18_7 : World.frozen? _ ⟨go18, ((ji12) : Int).toNat * 9 + 7, none⟩ = false := hfr18 7
                          have hf18_8 : World.frozen? _ ⟨go18, ((ji12) : Int).toNat * 9 + 8, none⟩ = false := hfr18 8
                          clear hcl18 hcc18 hfr18 hM18
                          replace p18 := eq_true p18
                          replace q18 := eq_true q18
                          obtain ⟨ce25, hcl25, hM25, hcc25, hfr25⟩ := Kd.R_elem HO_3.out z106 ((ji12) : Int) (of_decide_eq_true (by first | (with_reducible assumption) | assumption)) (by have h_ : ((ji12) : Int) < ((x3_1.length : Int) : Int) := of_decide_eq_true (by first | (with_reducible assumption) | assumption); first | exact h_ | (have e_ := (Kd.R_reads' HO_3.out).1; omega) | simpa using h_)
                          obtain rfl := k106_openM hM25
                          have HP25 := (Kd.R_seg HO_3.out ((ji12) : Int) (of_decide_eq_true (by first | (with_reducible assumption) | assumption)) (by have h_ : ((ji12) : Int) < ((x3_1.length : Int) : Int) := of_decide_eq_true (by first | (with_reducible assumption) | assumption); first | exact h_ | (have e_ := (Kd.R_reads' HO_3.out).1; omega) | simpa using h_) (seg := [.string (((rd_T106 x3_1 (ji12)).f2) ++ ((rd_T106 l0 x9_1).f2))]) (j := 4) hcl25 hcc25 (show 5 ≤ 9 from by decide) (x' := (⟨(⟨(rd_T106 x3_1 (ji12)).f0.f0, (rd_T106 x3_1 (ji12)).f0.f1, (rd_T106 x3_1 (ji12)).f0.f2⟩ : S84), (rd_T106 x3_1 (ji12)).f1, ((rd_T106 x3_1 (ji12)).f2) ++ ((rd_T106 l0 x9_1).f2), (rd_T106 x3_1 (ji12)).f3, (rd_T106 x3_1 (ji12)).f4, (rd_T106 x3_1 (ji12)).f5, (rd_T106 x3_1 (ji12)).f6⟩ : S106)) (k106_mkM _ _ _ (⟨(⟨(rd_T106 x3_1 (ji12)).f0.f0, (rd_T106 x3_1 (ji12)).f0.f1, (rd_T106 x3_1 (ji12)).f0.f2⟩ : S84), (rd_T106 x3_1 (ji12)).f1, ((rd_T106 x3_1 (ji12)).f2) ++ ((rd_T106 l0 x9_1).f2), (rd_T106 x3_1 (ji12)).f3, (rd_T106 x3_1 (ji12)).f4, (rd_T106 x3_1 (ji12)).f5, (rd_T106 x3_1 (ji12)).f6⟩ : S106) ) (fun _ hk => hk)).1
                          rw [← Ny120.out] at HP25
                          have HQ25 := Aside0.mk HP25
                          clear hcl25 hcc25 hfr25 hM25 HP25
                          refine start_ (n := 12) (S := fun w' => w'.cell? ⟨gb115, 0, none⟩ = some (.string ((rd_T106 l0 x9_1).f0.f0)) ∧ w'.cell? ⟨gb115, 1, none⟩ = some (.string ((rd_T106 l0 x9_1).f0.f1)) ∧ w'.cell? ⟨gb115, 2, none⟩ = some (.string ((rd_T106 l0 x9_1).f0.f2)) ∧ w'.cell? ⟨gb115, 3, none⟩ = some (.bool ((rd_T106 l0 x9_1).f1)) ∧ w'.cell? ⟨gb115, 4, none⟩ = some (.string ((rd_T106 l0 x9_1).f2)) ∧ w'.cell? ⟨gb115, 5, none⟩ = some (.string ((rd_T106 l0 x9_1).f3)) ∧ w'.cell? ⟨gb115, 6, none⟩ = some (.string ((rd_T106 l0 x9_1).f4)) ∧ w'.cell? ⟨gb115, 7, none⟩ = some (.string ((rd_T106 l0 x9_1).f5)) ∧ w'.cell? ⟨gb115, 8, none⟩ = some (.bool ((rd_T106 l0 x9_1).f6)) ∧ w'.cell? ⟨go18, ((ji12)).toNat * 9, none⟩ = some (.string ((rd_T106 x3_1 (ji12)).f0.f0)) ∧ w'.cell? ⟨go18, ((ji12)).toNat * 9 + 1, none⟩ = some (.string ((rd_T106 x3_1 (ji12)).f0.f1)) ∧ w'.cell? ⟨go18, ((ji12)).toNat * 9 + 2, none⟩ = some (.string ((rd_T106 x3_1 (ji12)).f0.f2)) ∧ w'.cell? ⟨go18, ((ji12)).toNat * 9 + 3, none⟩ = some (.bool ((rd_T106 x3_1 (ji12)).f1)) ∧ w'.cell? ⟨go18, ((ji12)).toNat * 9 + 4, none⟩ = some (.string ((rd_T106 x3_1 (ji12)).f2)) ∧ w'.cell? ⟨go18, ((ji12)).toNat * 9 + 5, none⟩ = some (.string ((rd_T106 x3_1 (ji12)).f3)) ∧ w'.cell? ⟨go18, ((ji12)).toNat * 9 + 6, none⟩ = some (.string ((rd_T106 x3_1 (ji12)).f4)) ∧ w'.cell? ⟨go18, ((ji12)).toNat * 9 + 7, none⟩ = some (.string ((rd_T106 x3_1 (ji12)).f5)) ∧ w'.cell? ⟨go18, ((ji12)).toNat * 9 + 8, none⟩ = some (.bool ((rd_T106 x3_1 (ji12)).f6))) (ds := [11]) #[false, false, false, false, false, false, false, false, false, false, false, false] (by kernel_rfl) rfl rfl ⟨(blk_cell BK115.out 0).trans rfl, (blk_cell BK115.out 1).trans rfl, (blk_cell BK115.out 2).trans rfl, (blk_cell BK115.out 3).trans rfl, (blk_cell BK115.out 4).trans rfl, (blk_cell BK115.out 5).trans rfl, (blk_cell BK115.out 6).trans rfl, (blk_cell BK115.out 7).trans rfl, (blk_cell BK115.out 8).trans rfl, hx119_0, hx119_1, hx119_2, hx119_3, hx119_4, hx119_5, hx119_6, hx119_7, hx119_8⟩ (fun hHeld => ?_); refine with_tabW doc_Of.tab9 doc_Of.bits9 (fun HT_ HW_ => ?_)
                          generalize w23.drew = w24 at HO_3 BK115 HB GG18 HQ25 hf18_0 hf18_1 hf18_2 hf18_3 hf18_4 hf18_5 hf18_6 hf18_7 hf18_8 hx117_0 hx117_1 hx117_2 hx117_3 hx117_4 hx117_5 hx117_6 hx117_7 hx117_8 hx119_0 hx119_1 hx119_2 hx119_3 hx119_4 hx119_5 hx119_6 hx119_7 hx119_8 hx18_0 hx18_1 hx18_2 hx18_3 hx18_4 hx18_5 hx18_6 hx18_7 hx18_8 hHeld ⊢
                          refine pure_ (i := 0) (N := some 38) (v := ?_) (a' := ?_) #[true, false, false, false, false, false, false, false, false, false, false, false] rfl rfl (any_of HT_.out (by kernel_rfl)) (fun _ _ _ h => h) (Or.inl ⟨by rfl, ?_⟩) ?_ ?_
                          rotate_left
                          · intro w'
                            go_simp
                            with_reducible rfl
                          rotate_left
                          · simp only [Act.put, List.setIfInBounds_toArray, List.set_cons_zero, List.set_cons_succ, i64_w, i32_w]
                            rfl
                          refine pure_ (i := 1) (N := some 39) (v := ?_) (a' := ?_) #[true, true, false, false, false, false, false, false, false, false, false, false] rfl rfl (any_of HT_.out (by kernel_rfl)) (fun _ _ _ h => h) (Or.inl ⟨by rfl, ?_⟩) ?_ ?_
                          rotate_left
                          · intro w'
                            go_simp
                            with_reducible rfl
                          rotate_left
                          · simp only [Act.put, List.setIfInBounds_toArray, List.set_cons_zero, List.set_cons_succ, i64_w, i32_w]
                            rfl
                          refine pure_ (i := 2) (N := some 40) (v := ?_) (a' := ?_) #[true, true, true, false, false, false, false, false, false, false, false, false] rfl rfl (any_of HT_.out (by kernel_rfl)) (fun _ _ _ h => h) (Or.inl ⟨by rfl, ?_⟩) ?_ ?_
                          rotate_left
                          · intro w'
                            go_simp
                            with_reducible rfl
                          rotate_left
                          · simp only [Act.put, List.setIfInBounds_toArray, List.set_cons_zero, List.set_cons_succ, i64_w, i32_w]
                            rfl
                          refine pure_ (i := 3) (N := some 41) (v := ?_) (a' := ?_) #[true, true, true, true, false, false, false, false, false, false, false, false] rfl rfl (any_of HT_.out (by kernel_rfl)) (fun _ _ _ h => h) (Or.inl ⟨by rfl, ?_⟩) ?_ ?_
                          rotate_left
                          · intro w'
                            go_simp
                            with_reducible rfl
                          rotate_left
                          · simp only [Act.put, List.setIfInBounds_toArray, List.set_cons_zero, List.set_cons_succ, i64_w, i32_w]
                            rfl
                          refine pure_ (i := 4) (N := some 42) (v := ?_) (a' := ?_) #[true, true, true, true, true, false, false, false, false, false, false, false] rfl rfl (any_of HT_.out (by kernel_rfl)) (fun _ _ _ h => h) (Or.inl ⟨by rfl, ?_⟩) ?_ ?_
                          rotate_left
                          · intro w'
                            go_simp
                            with_reducible rfl
                          rotate_left
                          · simp only [Act.put, List.setIfInBounds_toArray, List.set_cons_zero, List.set_cons_succ, i64_w, i32_w]
                            rfl
                          refine pure_ (i := 6) (N := some 44) (v := ?_) (a' := ?_) #[true, true, true, true, true, false, true, false, false, false, false, false] rfl rfl (any_of HT_.out (by kernel_rfl)) (fun _ _ _ h => h) (Or.inl ⟨by rfl, ?_⟩) ?_ ?_
                          rotate_left
                          · intro w'
                            go_simp
                            with_reducible rfl
                          rotate_left
                          · simp only [Act.put, List.setIfInBounds_toArray, List.set_cons_zero, List.set_cons_succ, i64_w, i32_w]
                            rfl
                          refine take_ (i := 5) (N := some 43) (v := ?_) (a' := ?_) #[true, true, true, true, true, true, true, false, false, false, false, false] rfl rfl (take_ofW HT_.out HW_.out (by kernel_rfl)) (fun _ _ _ h => h) (Or.inl ⟨by rfl, ?_⟩) hHeld ?_ ?_
                          rotate_left
                          · rintro w' ⟨s0, s1, s2, s3, s4, s5, s6, s7, s8, s9, s10, s11, s12, s13, s14, s15, s16, s17⟩
                            go_simp
                            with_reducible rfl
                          rotate_left
                          · simp only [Act.put, List.setIfInBounds_toArray, List.set_cons_zero, List.set_cons_succ, i64_w, i32_w]
                            rfl
                          refine take_ (i := 7) (N := some 45) (v := ?_) (a' := ?_) #[true, true, true, true, true, true, true, true, false, false, false, false] rfl rfl (take_ofW HT_.out HW_.out (by kernel_rfl)) (fun _ _ _ h => h) (Or.inl ⟨by rfl, ?_⟩) hHeld ?_ ?_
                          rotate_left
                          · rintro w' ⟨s0, s1, s2, s3, s4, s5, s6, s7, s8, s9, s10, s11, s12, s13, s14, s15, s16, s17⟩
                            go_simp
                            with_reducible rfl
                          rotate_left
                          · simp only [Act.put, List.setIfInBounds_toArray, List.set_cons_zero, List.set_cons_succ, i64_w, i32_w]
                            rfl
                          refine pure_ (i := 8) (N := some 46) (v := ?_) (a' := ?_) #[true, true, true, true, true, true, true, true, true, false, false, false] rfl rfl (any_of HT_.out (by kernel_rfl)) (fun _ _ _ h => h) (Or.inl ⟨by rfl, ?_⟩) ?_ ?_
                          rotate_left
                          · intro w'
                            go_simp
                            with_reducible rfl
                          rotate_left
                          · simp only [Act.put, List.setIfInBounds_toArray, List.set_cons_zero, List.set_cons_succ, i64_w, i32_w]
                            rfl
                          refine pure_ (i := 9) (N := some 47) (v := ?_) (a' := ?_) #[true, true, true, true, true, true, true, true, true, true, false, false] rfl rfl (any_of HT_.out (by kernel_rfl)) (fun _ _ _ h => h) (Or.inl ⟨by rfl, ?_⟩) ?_ ?_
                          rotate_left
                          · intro w'
                            go_simp
                            with_reducible rfl
                          rotate_left
                          · simp only [Act.put, List.setIfInBounds_toArray, List.set_cons_zero, List.set_cons_succ, i64_w, i32_w]
                            rfl
                          refine pure_ (i := 10) (N := some 48) (v := ?_) (a' := ?_) #[true, true, true, true, true, true, true, true, true, true, true, false] rfl rfl (any_of HT_.out (by kernel_rfl)) (fun _ _ _ h => h) (Or.inl ⟨by rfl, ?_⟩) ?_ ?_
                          rotate_left
                          · intro w'
                            go_simp
                            with_reducible rfl
                          rotate_left
                          · simp only [Act.put, List.setIfInBounds_toArray, List.set_cons_zero, List.set_cons_succ, i64_w, i32_w]
                            rfl
                          refine last_ (i := 11) (N := none) #[true, true, true, true, true, true, true, true, true, true, true, true] rfl rfl (one_of HT_.out (by kernel_rfl)) (by decide) (fun K hK => ?_)
                          refine skip_ (w1 := ?_) (by rfl) rfl ?_ ?_
                          rotate_left
                          · go_simp
                            rfl
                          refine hK.out _ _ ?_
                          clear hK K
                          refine done_ (done_of HT_.out (by kernel_rfl)) ?_
                          try go_wp2
                          go_roundg k1
                          case measure => have := HK1.out; omega
                          case rel => exact ⟨(y120), (wrap64 (x9_1 + 1)), (by first | rfl | (simp; done) | (simp [*]; done)), H', ⟨by have := HK1.out; omega⟩, ⟨by (with_reducible repeat (first | apply Kd.R_alloc | apply Kd.R_drewN | apply Kd.R_drew)); exact Kd.R_mono HQ25.out (fun _ hk => trivial)⟩, ⟨by repeat (first | (with_reducible first | exact HB.out | apply below_alloc | apply pw_below_drewN | apply below_drew1 | refine below_set ?_ GB18.out | refine below_set ?_ GE115.out) | exact HB.out)⟩⟩
                        · rw [if_neg c17] at H
                          exact absurd H (by simp)
                      · replace c16 := Bool.eq_false_iff.mpr c16
                        subst c16
                        have H1 : (if x3_1.length < 1099511627776 then (doc_Of.l0 k1 (x3_1 ++ [(⟨(⟨(rd_T106 l0 x9_1).f0.f0, (rd_T106 l0 x9_1).f0.f1, (rd_T106 l0 x9_1).f0.f2⟩ : S84), (rd_T106 l0 x9_1).f1, (rd_T106 l0 x9_1).f2, (rd_T106 l0 x9_1).f3, (rd_T106 l0 x9_1).f4, (rd_T106 l0 x9_1).f5, (rd_T106 l0 x9_1).f6⟩ : S106)]) l0 (l0.length : Int) (wrap64 (x9_1 + 1))) else (none)) = some r := by rw [if_neg (show ¬ (false = true) by decide)] at H; exact H
                        clear H
                        have H := H1
                        clear H1
                        by_cases c26 : x3_1.length < 1099511627776
                        · rw [if_pos c26] at H
                          have LMc26 := Aside0.mk c26
                          clear c26
                          obtain ⟨y121, hy121⟩ : ∃ y_ : List (S106), y_ = (x3_1 ++ [(⟨(⟨(rd_T106 l0 x9_1).f0.f0, (rd_T106 l0 x9_1).f0.f1, (rd_T106 l0 x9_1).f0.f2⟩ : S84), (rd_T106 l0 x9_1).f1, (rd_T106 l0 x9_1).f2, (rd_T106 l0 x9_1).f3, (rd_T106 l0 x9_1).f4, (rd_T106 l0 x9_1).f5, (rd_T106 l0 x9_1).f6⟩ : S106)]) := ⟨_, rfl⟩
                          replace H : (doc_Of.l0 k1 y121 l0 (l0.length : Int) (wrap64 (x9_1 + 1))) = some r := by first | (rw [hy121]; with_reducible exact H) | (have H2_ := (Option.bind_some _ _).symm.trans H; rw [hy121]; with_reducible exact H2_) | (have H2_ := (Option.bind_some _ _).symm.trans H; with_reducible exact H2_) | with_reducible exact H | (rw [hy121]; exact H) | exact H
                          have Ny121 := Aside0.mk hy121
                          clear hy121
                          have H' := Aside0.mk H
                          clear H
                          have p114 : 0 ≤ (x9_1 : Int) := of_decide_eq_true (by first | (with_reducible assumption) | assumption)
                          have q114 : x9_1 < (l0.length : Int) := of_decide_eq_true (by first | (with_reducible assumption) | assumption)
                          obtain ⟨ad114, e114, hx114_0, hx114_1, hx114_2, hx114_3, hx114_4, hx114_5, hx114_6, hx114_7, hx114_8⟩ := at_T106 HR0.out x9_1 p114 q114
                          cases e114
                          replace hx114_0 := (HB.out.cell (World.block_lt_of_cell? w _ hx114_0)).trans hx114_0
                          replace hx114_1 := (HB.out.cell (World.block_lt_of_cell? w _ hx114_1)).trans hx114_1
                          replace hx114_2 := (HB.out.cell (World.block_lt_of_cell? w _ hx114_2)).trans hx114_2
                          replace hx114_3 := (HB.out.cell (World.block_lt_of_cell? w _ hx114_3)).trans hx114_3
                          replace hx114_4 := (HB.out.cell (World.block_lt_of_cell? w _ hx114_4)).trans hx114_4
                          replace hx114_5 := (HB.out.cell (World.block_lt_of_cell? w _ hx114_5)).trans hx114_5
                          replace hx114_6 := (HB.out.cell (World.block_lt_of_cell? w _ hx114_6)).trans hx114_6
                          replace hx114_7 := (HB.out.cell (World.block_lt_of_cell? w _ hx114_7)).trans hx114_7
                          replace hx114_8 := (HB.out.cell (World.block_lt_of_cell? w _ hx114_8)).trans hx114_8
                          replace p114 := eq_true p114
                          replace q114 := eq_true q114
                          go_wp2_with (first | ((with_reducible refine gate_dst (N := 5) rfl ?_); refine box_event ?hg (N := 5) ?hd (cs := #[.string (⟨#[]⟩ : ByteArray), .string (⟨#[]⟩ : ByteArray), .string (⟨#[]⟩ : ByteArray), .bool false, .string (⟨#[]⟩ : ByteArray), .string (⟨#[]⟩ : ByteArray), .string (⟨#[]⟩ : ByteArray), .string (⟨#[]⟩ : ByteArray), .bool false]) (t := 106) ?hr ?_; (case hd => rfl); (case hg => rfl); (case hr => first | (go_simp; done) | (go_simp; rfl)); intro gb115 hg w27 hbox hb; have n0_ := Aside0.mk (Kd.R_below (Kd.R_elderB (by (with_reducible repeat (first | apply Kd.R_alloc | apply Kd.R_drewN | apply Kd.R_drew)); exact HO_3.out) gb115 (Nat.le_of_eq hg.symm)) hb); have n1_ := Aside0.mk (below_step (by repeat (first | (with_reducible first | exact HB.out | apply below_alloc | apply pw_below_drewN | apply below_drew1) | exact HB.out)) hb); have n2_ := Aside0.mk (hbox); have n3_ := Aside0.mk ((by rw [hg]; exact (below_size (by repeat (first | (with_reducible first | exact HB.out | apply below_alloc | apply pw_below_drewN | apply below_drew1) | exact HB.out))) : w.heap.size ≤ gb115)); have n4_ := Aside0.mk ((by rw [hg]; exact (below_size (by repeat (first | (with_reducible first | exact HB.out | apply below_alloc | apply pw_below_drewN | apply below_drew1) | exact HB.out))) : w.heap.size ≤ gb115)); clear HO_3; clear HB; have HO_3 := n0_; have HB := n1_; have BK115 := n2_; have GW115 := n3_; have GE115 := n4_; clear n0_ n1_ n2_ n3_ n4_; clear hb hbox hg; have hcz28_0 : w27.cell? ⟨gb115, 0, none⟩ = some (.string (⟨#[]⟩ : ByteArray)) := (blk_cell BK115.out 0).trans rfl; have hcz28_1 : w27.cell? ⟨gb115, 1, none⟩ = some (.string (⟨#[]⟩ : ByteArray)) := (blk_cell BK115.out 1).trans rfl; have hcz28_2 : w27.cell? ⟨gb115, 2, none⟩ = some (.string (⟨#[]⟩ : ByteArray)) := (blk_cell BK115.out 2).trans rfl; have hcz28_3 : w27.cell? ⟨gb115, 3, none⟩ = some (.bool false) := (blk_cell BK115.out 3).trans rfl; have hcz28_4 : w27.cell? ⟨gb115, 4, none⟩ = some (.string (⟨#[]⟩ : ByteArray)) := (blk_cell BK115.out 4).trans rfl; have hcz28_5 : w27.cell? ⟨gb115, 5, none⟩ = some (.string (⟨#[]⟩ : ByteArray)) := (blk_cell BK115.out 5).trans rfl; have hcz28_6 : w27.cell? ⟨gb115, 6, none⟩ = some (.string (⟨#[]⟩ : ByteArray)) := (blk_cell BK115.out 6).trans rfl; have hcz28_7 : w27.cell? ⟨gb115, 7, none⟩ = some (.string (⟨#[]⟩ : ByteArray)) := (blk_cell BK115.out 7).trans rfl; have hcz28_8 : w27.cell? ⟨gb115, 8, none⟩ = some (.bool false) := (blk_cell BK115.out 8).trans rfl; have hfz28_0 := blk_frozen BK115.out 0; have hfz28_1 := blk_frozen BK115.out 1; have hfz28_2 := blk_frozen BK115.out 2; have hfz28_3 := blk_frozen BK115.out 3; have hfz28_4 := blk_frozen BK115.out 4; have hfz28_5 := blk_frozen BK115.out 5; have hfz28_6 := blk_frozen BK115.out 6; have hfz28_7 := blk_frozen BK115.out 7; have hfz28_8 := blk_frozen BK115.out 8; obtain ⟨Ao29, co29, eo29⟩ := Kd.R_slice HO_3.out; subst eo29) | ((with_reducible refine gate_callee (f := 75) rfl ?_); refine goesL_ (some 25) rfl rfl Try.func75 (by kernel_rfl) rfl #[.agg #[.string ((rd_T106 l0 x9_1).f0.f0), .string ((rd_T106 l0 x9_1).f0.f1), .string ((rd_T106 l0 x9_1).f0.f2), .bool ((rd_T106 l0 x9_1).f1), .string ((rd_T106 l0 x9_1).f2), .string ((rd_T106 l0 x9_1).f3), .string ((rd_T106 l0 x9_1).f4), .string ((rd_T106 l0 x9_1).f5), .bool ((rd_T106 l0 x9_1).f6)]] rfl (by (try simp only [List.map_toArray, List.map_cons, List.map_nil]); first | done | rfl | (simp only [List.length_drop, List.length_take]; rfl)) ?_; (with_reducible refine (doc_Part_isText.calls ((rd_T106 l0 x9_1).f0.f0) ((rd_T106 l0 x9_1).f0.f1) ((rd_T106 l0 x9_1).f0.f2) ((rd_T106 l0 x9_1).f1) ((rd_T106 l0 x9_1).f2) ((rd_T106 l0 x9_1).f3) ((rd_T106 l0 x9_1).f4) ((rd_T106 l0 x9_1).f5) ((rd_T106 l0 x9_1).f6) true _ A9.out).mono ?_); rintro e w30 ⟨rfl, hb⟩; refine ⟨_, rfl, ?_⟩; have n0_ := Aside0.mk (Kd.R_below (by (with_reducible repeat (first | apply Kd.R_alloc | apply Kd.R_drewN | apply Kd.R_drew)); exact (Kd.R_mono (Kd.R_far (p := ⟨gb115, 8, none⟩) (Kd.R_far (p := ⟨gb115, 7, none⟩) (Kd.R_far (p := ⟨gb115, 6, none⟩) (Kd.R_far (p := ⟨gb115, 5, none⟩) (Kd.R_far (p := ⟨gb115, 4, none⟩) (Kd.R_far (p := ⟨gb115, 3, none⟩) (Kd.R_far (p := ⟨gb115, 2, none⟩) (Kd.R_far (p := ⟨gb115, 1, none⟩) (Kd.R_far (p := ⟨gb115, 0, none⟩) (Kd.R_mono HO_3.out (fun k_ hk => (⟨hk, hk.2⟩ : _ ∧ k_ ≠ gb115))) (fun _ hk => hk.2) (.string ((rd_T106 l0 x9_1).f0.f0))) (fun _ hk => hk.2) (.string ((rd_T106 l0 x9_1).f0.f1))) (fun _ hk => hk.2) (.string ((rd_T106 l0 x9_1).f0.f2))) (fun _ hk => hk.2) (.bool ((rd_T106 l0 x9_1).f1))) (fun _ hk => hk.2) (.string ((rd_T106 l0 x9_1).f2))) (fun _ hk => hk.2) (.string ((rd_T106 l0 x9_1).f3))) (fun _ hk => hk.2) (.string ((rd_T106 l0 x9_1).f4))) (fun _ hk => hk.2) (.string ((rd_T106 l0 x9_1).f5))) (fun _ hk => hk.2) (.bool ((rd_T106 l0 x9_1).f6))) (fun _ h_ => h_.1))) hb); have n1_ := Aside0.mk (blk_below (g := gb115) (o := .cells #[.string ((rd_T106 l0 x9_1).f0.f0), .string ((rd_T106 l0 x9_1).f0.f1), .string ((rd_T106 l0 x9_1).f0.f2), .bool ((rd_T106 l0 x9_1).f1), .string ((rd_T106 l0 x9_1).f2), .string ((rd_T106 l0 x9_1).f3), .string ((rd_T106 l0 x9_1).f4), .string ((rd_T106 l0 x9_1).f5), .bool ((rd_T106 l0 x9_1).f6)] 106 (0, 0)) (by (with_reducible repeat (first | refine blk_drewN ?_ _ | refine blk_drew ?_ | refine blk_alloc ?_ _)); refine blk_put (cs := #[.string ((rd_T106 l0 x9_1).f0.f0), .string ((rd_T106 l0 x9_1).f0.f1), .string ((rd_T106 l0 x9_1).f0.f2), .bool ((rd_T106 l0 x9_1).f1), .string ((rd_T106 l0 x9_1).f2), .string ((rd_T106 l0 x9_1).f3), .string ((rd_T106 l0 x9_1).f4), .string ((rd_T106 l0 x9_1).f5), .bool false]) ?_ 8 _ rfl; (with_reducible repeat (first | refine blk_drewN ?_ _ | refine blk_drew ?_ | refine blk_alloc ?_ _)); refine blk_put (cs := #[.string ((rd_T106 l0 x9_1).f0.f0), .string ((rd_T106 l0 x9_1).f0.f1), .string ((rd_T106 l0 x9_1).f0.f2), .bool ((rd_T106 l0 x9_1).f1), .string ((rd_T106 l0 x9_1).f2), .string ((rd_T106 l0 x9_1).f3), .string ((rd_T106 l0 x9_1).f4), .string (⟨#[]⟩ : ByteArray), .bool false]) ?_ 7 _ rfl; (with_reducible repeat (first | refine blk_drewN ?_ _ | refine blk_drew ?_ | refine blk_alloc ?_ _)); refine blk_put (cs := #[.string ((rd_T106 l0 x9_1).f0.f0), .string ((rd_T106 l0 x9_1).f0.f1), .string ((rd_T106 l0 x9_1).f0.f2), .bool ((rd_T106 l0 x9_1).f1), .string ((rd_T106 l0 x9_1).f2), .string ((rd_T106 l0 x9_1).f3), .string (⟨#[]⟩ : ByteArray), .string (⟨#[]⟩ : ByteArray), .bool false]) ?_ 6 _ rfl; (with_reducible repeat (first | refine blk_drewN ?_ _ | refine blk_drew ?_ | refine blk_alloc ?_ _)); refine blk_put (cs := #[.string ((rd_T106 l0 x9_1).f0.f0), .string ((rd_T106 l0 x9_1).f0.f1), .string ((rd_T106 l0 x9_1).f0.f2), .bool ((rd_T106 l0 x9_1).f1), .string ((rd_T106 l0 x9_1).f2), .string (⟨#[]⟩ : ByteArray), .string (⟨#[]⟩ : ByteArray), .string (⟨#[]⟩ : ByteArray), .bool false]) ?_ 5 _ rfl; (with_reducible repeat (first | refine blk_drewN ?_ _ | refine blk_drew ?_ | refine blk_alloc ?_ _)); refine blk_put (cs := #[.string ((rd_T106 l0 x9_1).f0.f0), .string ((rd_T106 l0 x9_1).f0.f1), .string ((rd_T106 l0 x9_1).f0.f2), .bool ((rd_T106 l0 x9_1).f1), .string (⟨#[]⟩ : ByteArray), .string (⟨#[]⟩ : ByteArray), .string (⟨#[]⟩ : ByteArray), .string (⟨#[]⟩ : ByteArray), .bool false]) ?_ 4 _ rfl; (with_reducible repeat (first | refine blk_drewN ?_ _ | refine blk_drew ?_ | refine blk_alloc ?_ _)); refine blk_put (cs := #[.string ((rd_T106 l0 x9_1).f0.f0), .string ((rd_T106 l0 x9_1).f0.f1), .string ((rd_T106 l0 x9_1).f0.f2), .bool false, .string (⟨#[]⟩ : ByteArray), .string (⟨#[]⟩ : ByteArray), .string (⟨#[]⟩ : ByteArray), .string (⟨#[]⟩ : ByteArray), .bool false]) ?_ 3 _ rfl; (with_reducible repeat (first | refine blk_drewN ?_ _ | refine blk_drew ?_ | refine blk_alloc ?_ _)); refine blk_put (cs := #[.string ((rd_T106 l0 x9_1).f0.f0), .string ((rd_T106 l0 x9_1).f0.f1), .string (⟨#[]⟩ : ByteArray), .bool false, .string (⟨#[]⟩ : ByteArray), .string (⟨#[]⟩ : ByteArray), .string (⟨#[]⟩ : ByteArray), .string (⟨#[]⟩ : ByteArray), .bool false]) ?_ 2 _ rfl; (with_reducible repeat (first | refine blk_drewN ?_ _ | refine blk_drew ?_ | refine blk_alloc ?_ _)); refine blk_put (cs := #[.string ((rd_T106 l0 x9_1).f0.f0), .string (⟨#[]⟩ : ByteArray), .string (⟨#[]⟩ : ByteArray), .bool false, .string (⟨#[]⟩ : ByteArray), .string (⟨#[]⟩ : ByteArray), .string (⟨#[]⟩ : ByteArray), .string (⟨#[]⟩ : ByteArray), .bool false]) ?_ 1 _ rfl; (with_reducible repeat (first | refine blk_drewN ?_ _ | refine blk_drew ?_ | refine blk_alloc ?_ _)); refine blk_put (cs := #[.string (⟨#[]⟩ : ByteArray), .string (⟨#[]⟩ : ByteArray), .string (⟨#[]⟩ : ByteArray), .bool false, .string (⟨#[]⟩ : ByteArray), .string (⟨#[]⟩ : ByteArray), .string (⟨#[]⟩ : ByteArray), .string (⟨#[]⟩ : ByteArray), .bool false]) ?_ 0 _ rfl; (with_reducible repeat (first | refine blk_drewN ?_ _ | refine blk_drew ?_ | refine blk_alloc ?_ _)); exact BK115.out) hb); have n2_ := Aside0.mk (below_step (by repeat (first | (with_reducible first | exact HB.out | apply below_alloc | apply pw_below_drewN | apply below_drew1 | refine below_set ?_ GE115.out) | exact HB.out)) hb); clear HO_3; clear BK115; clear HB; have HO_3 := n0_; have BK115 := n1_; have HB := n2_; clear n0_ n1_ n2_; (try clear hb); (try clear hb2); (try clear hk); (try clear hi); have p117 : 0 ≤ ((ji12) : Int) := of_decide_eq_true (by first | (with_reducible assumption) | assumption); have q117 : (ji12) < (x3_1.length : Int) := of_decide_eq_true (by first | (with_reducible assumption) | assumption); obtain ⟨ad117, e117, hx117_0, hx117_1, hx117_2, hx117_3, hx117_4, hx117_5, hx117_6, hx117_7, hx117_8⟩ := at_T106 (Kd.R_reads' HO_3.out).2.2 (ji12) p117 q117; cases e117; replace p117 := eq_true p117; replace q117 := eq_true q117) | (go_at_call 75; (with_reducible refine (doc_Part_isText.calls ((rd_T106 x3_1 (ji12)).f0.f0) ((rd_T106 x3_1 (ji12)).f0.f1) ((rd_T106 x3_1 (ji12)).f0.f2) ((rd_T106 x3_1 (ji12)).f1) ((rd_T106 x3_1 (ji12)).f2) ((rd_T106 x3_1 (ji12)).f3) ((rd_T106 x3_1 (ji12)).f4) ((rd_T106 x3_1 (ji12)).f5) ((rd_T106 x3_1 (ji12)).f6) false _ A15.out).mono ?_); rintro e w31 ⟨rfl, hb⟩; have n0_ := Aside0.mk (Kd.R_below (by (with_reducible repeat (first | apply Kd.R_alloc | apply Kd.R_drewN | apply Kd.R_drew)); exact HO_3.out) hb); have n1_ := Aside0.mk (blk_below (g := gb115) (o := .cells #[.string ((rd_T106 l0 x9_1).f0.f0), .string ((rd_T106 l0 x9_1).f0.f1), .string ((rd_T106 l0 x9_1).f0.f2), .bool ((rd_T106 l0 x9_1).f1), .string ((rd_T106 l0 x9_1).f2), .string ((rd_T106 l0 x9_1).f3), .string ((rd_T106 l0 x9_1).f4), .string ((rd_T106 l0 x9_1).f5), .bool ((rd_T106 l0 x9_1).f6)] 106 (0, 0)) (by (with_reducible repeat (first | refine blk_drewN ?_ _ | refine blk_drew ?_ | refine blk_alloc ?_ _)); exact BK115.out) hb); have n2_ := Aside0.mk (below_step (by repeat (first | (with_reducible first | exact HB.out | apply below_alloc | apply pw_below_drewN | apply below_drew1 | refine below_set ?_ GE115.out) | exact HB.out)) hb); clear HO_3; clear BK115; clear HB; have HO_3 := n0_; have BK115 := n1_; have HB := n2_; clear n0_ n1_ n2_; (try clear hb); (try clear hb2); (try clear hk); (try clear hi); have hcz32_0 : w31.cell? ⟨gb115, 0, none⟩ = some (.string ((rd_T106 l0 x9_1).f0.f0)) := (blk_cell BK115.out 0).trans rfl; have hcz32_1 : w31.cell? ⟨gb115, 1, none⟩ = some (.string ((rd_T106 l0 x9_1).f0.f1)) := (blk_cell BK115.out 1).trans rfl; have hcz32_2 : w31.cell? ⟨gb115, 2, none⟩ = some (.string ((rd_T106 l0 x9_1).f0.f2)) := (blk_cell BK115.out 2).trans rfl; have hcz32_3 : w31.cell? ⟨gb115, 3, none⟩ = some (.bool ((rd_T106 l0 x9_1).f1)) := (blk_cell BK115.out 3).trans rfl; have hcz32_4 : w31.cell? ⟨gb115, 4, none⟩ = some (.string ((rd_T106 l0 x9_1).f2)) := (blk_cell BK115.out 4).trans rfl; have hcz32_5 : w31.cell? ⟨gb115, 5, none⟩ = some (.string ((rd_T106 l0 x9_1).f3)) := (blk_cell BK115.out 5).trans rfl; have hcz32_6 : w31.cell? ⟨gb115, 6, none⟩ = some (.string ((rd_T106 l0 x9_1).f4)) := (blk_cell BK115.out 6).trans rfl; have hcz32_7 : w31.cell? ⟨gb115, 7, none⟩ = some (.string ((rd_T106 l0 x9_1).f5)) := (blk_cell BK115.out 7).trans rfl; have hcz32_8 : w31.cell? ⟨gb115, 8, none⟩ = some (.bool ((rd_T106 l0 x9_1).f6)) := (blk_cell BK115.out 8).trans rfl; have hfz32_0 := blk_frozen BK115.out 0; have hfz32_1 := blk_frozen BK115.out 1; have hfz32_2 := blk_frozen BK115.out 2; have hfz32_3 := blk_frozen BK115.out 3; have hfz32_4 := blk_frozen BK115.out 4; have hfz32_5 := blk_frozen BK115.out 5; have hfz32_6 := blk_frozen BK115.out 6; have hfz32_7 := blk_frozen BK115.out 7; have hfz32_8 := blk_frozen BK115.out 8) | ((with_reducible refine gate_builtin (b := .append) (xs := #[.tmp 15, .tmp 17]) rfl ?_); at_builtin; refine Kd.R_append k106 (w0 := w) w.heap.size rfl (.tmp 15) (.tmp 17) 29 106 (.agg #[(.string ⟨#[]⟩), (.string ⟨#[]⟩), (.string ⟨#[]⟩), (.bool false), (.string ⟨#[]⟩), (.string ⟨#[]⟩), (.string ⟨#[]⟩), (.string ⟨#[]⟩), (.bool false)]) 128 rfl Try.underlying29 info106 rfl (by decide) (by omega) (.slice (some ad117) x3_1.length co29) x3_1 (⟨(⟨(rd_T106 l0 x9_1).f0.f0, (rd_T106 l0 x9_1).f0.f1, (rd_T106 l0 x9_1).f0.f2⟩ : S84), (rd_T106 l0 x9_1).f1, (rd_T106 l0 x9_1).f2, (rd_T106 l0 x9_1).f3, (rd_T106 l0 x9_1).f4, (rd_T106 l0 x9_1).f5, (rd_T106 l0 x9_1).f6⟩ : S106) [.string ((rd_T106 l0 x9_1).f0.f0), .string ((rd_T106 l0 x9_1).f0.f1), .string ((rd_T106 l0 x9_1).f0.f2), .bool ((rd_T106 l0 x9_1).f1), .string ((rd_T106 l0 x9_1).f2), .string ((rd_T106 l0 x9_1).f3), .string ((rd_T106 l0 x9_1).f4), .string ((rd_T106 l0 x9_1).f5), .bool ((rd_T106 l0 x9_1).f6)] (fun k_ => k_ ≠ gb115) (fun _ => False) rfl rfl ?aP (fun _ hk => hk.elim) ?aF ?aO ?aB ?aS ?aL ?_; (case aP => exact k106_mkM _ _ _ (⟨(⟨(rd_T106 l0 x9_1).f0.f0, (rd_T106 l0 x9_1).f0.f1, (rd_T106 l0 x9_1).f0.f2⟩ : S84), (rd_T106 l0 x9_1).f1, (rd_T106 l0 x9_1).f2, (rd_T106 l0 x9_1).f3, (rd_T106 l0 x9_1).f4, (rd_T106 l0 x9_1).f5, (rd_T106 l0 x9_1).f6⟩ : S106)); (case aB => exact (by repeat (first | (with_reducible first | exact HB.out | apply below_alloc | apply pw_below_drewN | apply below_drew1 | refine below_set ?_ GE115.out) | exact HB.out))); (case aF => exact (fun k_ hk => Kd.freshB (g := gb115) (o := .cells #[.string ((rd_T106 l0 x9_1).f0.f0), .string ((rd_T106 l0 x9_1).f0.f1), .string ((rd_T106 l0 x9_1).f0.f2), .bool ((rd_T106 l0 x9_1).f1), .string ((rd_T106 l0 x9_1).f2), .string ((rd_T106 l0 x9_1).f3), .string ((rd_T106 l0 x9_1).f4), .string ((rd_T106 l0 x9_1).f5), .bool ((rd_T106 l0 x9_1).f6)] 106 (0, 0)) (by (with_reducible repeat (first | refine blk_drewN ?_ _ | refine blk_drew ?_ | refine blk_alloc ?_ _)); exact BK115.out) k_ hk)); (case aO => exact (by (with_reducible repeat (first | apply Kd.R_alloc | apply Kd.R_drewN | apply Kd.R_drew)); exact Kd.R_mono HO_3.out (fun _ hk => hk.2))); (case aS => exact (below_size (by repeat (first | (with_reducible first | exact HB.out | apply below_alloc | apply pw_below_drewN | apply below_drew1 | refine below_set ?_ GE115.out) | exact HB.out)))); (case aL => have := LMc26.out; omega); intro v122 w33 ho hb hg hat; rw [← Ny121.out] at ho; have n0_ := Aside0.mk (blk_grown (g := gb115) (o := .cells #[.string ((rd_T106 l0 x9_1).f0.f0), .string ((rd_T106 l0 x9_1).f0.f1), .string ((rd_T106 l0 x9_1).f0.f2), .bool ((rd_T106 l0 x9_1).f1), .string ((rd_T106 l0 x9_1).f2), .string ((rd_T106 l0 x9_1).f3), .string ((rd_T106 l0 x9_1).f4), .string ((rd_T106 l0 x9_1).f5), .bool ((rd_T106 l0 x9_1).f6)] 106 (0, 0)) (by (with_reducible repeat (first | refine blk_drewN ?_ _ | refine blk_drew ?_ | refine blk_alloc ?_ _)); exact BK115.out) hg (Kd.R_away HO_3.out (fun _ hk => hk.2))); have n1_ := Aside0.mk (hb); have n2_ := Aside0.mk (ho); clear BK115; clear HB; clear HO_3; have BK115 := n0_; have HB := n1_; have HO123 := n2_; clear n0_ n1_ n2_; clear ho hb hg hat))
                          go_roundg k1
                          case measure => have := HK1.out; omega
                          case rel => exact ⟨(y121), (wrap64 (x9_1 + 1)), (by first | rfl | (simp; done) | (simp [*]; done)), H', ⟨by have := HK1.out; omega⟩, ⟨by (with_reducible repeat (first | apply Kd.R_alloc | apply Kd.R_drewN | apply Kd.R_drew)); exact Kd.R_mono HO123.out (fun _ hk => trivial)⟩, ⟨by repeat (first | (with_reducible first | exact HB.out | apply below_alloc | apply pw_below_drewN | apply below_drew1 | refine below_set ?_ GE115.out) | exact HB.out)⟩⟩
                        · rw [if_neg c26] at H
                          exact absurd H (by simp)
                    · rw [if_neg c14] at H
                      exact absurd H (by simp)
                  · rw [if_neg c13] at H
                    exact absurd H (by simp)
                · rw [if_neg c11] at H
                  have c11b0 : decide (0 < (x3_1.length : Int)) = false := decide_eq_false c11
                  have c11b1 : decide (0 < x3_1.length) = false := decide_eq_false (by omega)
                  clear c11
                  by_cases c34 : x3_1.length < 1099511627776
                  · rw [if_pos c34] at H
                    have LMc34 := Aside0.mk c34
                    clear c34
                    obtain ⟨y124, hy124⟩ : ∃ y_ : List (S106), y_ = (x3_1 ++ [(⟨(⟨(rd_T106 l0 x9_1).f0.f0, (rd_T106 l0 x9_1).f0.f1, (rd_T106 l0 x9_1).f0.f2⟩ : S84), (rd_T106 l0 x9_1).f1, (rd_T106 l0 x9_1).f2, (rd_T106 l0 x9_1).f3, (rd_T106 l0 x9_1).f4, (rd_T106 l0 x9_1).f5, (rd_T106 l0 x9_1).f6⟩ : S106)]) := ⟨_, rfl⟩
                    replace H : (doc_Of.l0 k1 y124 l0 (l0.length : Int) (wrap64 (x9_1 + 1))) = some r := by first | (rw [hy124]; with_reducible exact H) | (have H2_ := (Option.bind_some _ _).symm.trans H; rw [hy124]; with_reducible exact H2_) | (have H2_ := (Option.bind_some _ _).symm.trans H; with_reducible exact H2_) | with_reducible exact H | (rw [hy124]; exact H) | exact H
                    have Ny124 := Aside0.mk hy124
                    clear hy124
                    have H' := Aside0.mk H
                    clear H
                    have p114 : 0 ≤ (x9_1 : Int) := of_decide_eq_true (by first | (with_reducible assumption) | assumption)
                    have q114 : x9_1 < (l0.length : Int) := of_decide_eq_true (by first | (with_reducible assumption) | assumption)
                    obtain ⟨ad114, e114, hx114_0, hx114_1, hx114_2, hx114_3, hx114_4, hx114_5, hx114_6, hx114_7, hx114_8⟩ := at_T106 HR0.out x9_1 p114 q114
                    cases e114
                    replace hx114_0 := (HB.out.cell (World.block_lt_of_cell? w _ hx114_0)).trans hx114_0
                    replace hx114_1 := (HB.out.cell (World.block_lt_of_cell? w _ hx114_1)).trans hx114_1
                    replace hx114_2 := (HB.out.cell (World.block_lt_of_cell? w _ hx114_2)).trans hx114_2
                    replace hx114_3 := (HB.out.cell (World.block_lt_of_cell? w _ hx114_3)).trans hx114_3
                    replace hx114_4 := (HB.out.cell (World.block_lt_of_cell? w _ hx114_4)).trans hx114_4
                    replace hx114_5 := (HB.out.cell (World.block_lt_of_cell? w _ hx114_5)).trans hx114_5
                    replace hx114_6 := (HB.out.cell (World.block_lt_of_cell? w _ hx114_6)).trans hx114_6
                    replace hx114_7 := (HB.out.cell (World.block_lt_of_cell? w _ hx114_7)).trans hx114_7
                    replace hx114_8 := (HB.out.cell (World.block_lt_of_cell? w _ hx114_8)).trans hx114_8
                    replace p114 := eq_true p114
                    replace q114 := eq_true q114
                    go_wp2_with (first | ((with_reducible refine gate_dst (N := 5) rfl ?_); refine box_event ?hg (N := 5) ?hd (cs := #[.string (⟨#[]⟩ : ByteArray), .string (⟨#[]⟩ : ByteArray), .string (⟨#[]⟩ : ByteArray), .bool false, .string (⟨#[]⟩ : ByteArray), .string (⟨#[]⟩ : ByteArray), .string (⟨#[]⟩ : ByteArray), .string (⟨#[]⟩ : ByteArray), .bool false]) (t := 106) ?hr ?_; (case hd => rfl); (case hg => rfl); (case hr => first | (go_simp; done) | (go_simp; rfl)); intro gb115 hg w35 hbox hb; have n0_ := Aside0.mk (Kd.R_below (Kd.R_elderB (by (with_reducible repeat (first | apply Kd.R_alloc | apply Kd.R_drewN | apply Kd.R_drew)); exact HO_3.out) gb115 (Nat.le_of_eq hg.symm)) hb); have n1_ := Aside0.mk (below_step (by repeat (first | (with_reducible first | exact HB.out | apply below_alloc | apply pw_below_drewN | apply below_drew1) | exact HB.out)) hb); have n2_ := Aside0.mk (hbox); have n3_ := Aside0.mk ((by rw [hg]; exact (below_size (by repeat (first | (with_reducible first | exact HB.out | apply below_alloc | apply pw_below_drewN | apply below_drew1) | exact HB.out))) : w.heap.size ≤ gb115)); have n4_ := Aside0.mk ((by rw [hg]; exact (below_size (by repeat (first | (with_reducible first | exact HB.out | apply below_alloc | apply pw_below_drewN | apply below_drew1) | exact HB.out))) : w.heap.size ≤ gb115)); clear HO_3; clear HB; have HO_3 := n0_; have HB := n1_; have BK115 := n2_; have GW115 := n3_; have GE115 := n4_; clear n0_ n1_ n2_ n3_ n4_; clear hb hbox hg; have hcz36_0 : w35.cell? ⟨gb115, 0, none⟩ = some (.string (⟨#[]⟩ : ByteArray)) := (blk_cell BK115.out 0).trans rfl; have hcz36_1 : w35.cell? ⟨gb115, 1, none⟩ = some (.string (⟨#[]⟩ : ByteArray)) := (blk_cell BK115.out 1).trans rfl; have hcz36_2 : w35.cell? ⟨gb115, 2, none⟩ = some (.string (⟨#[]⟩ : ByteArray)) := (blk_cell BK115.out 2).trans rfl; have hcz36_3 : w35.cell? ⟨gb115, 3, none⟩ = some (.bool false) := (blk_cell BK115.out 3).trans rfl; have hcz36_4 : w35.cell? ⟨gb115, 4, none⟩ = some (.string (⟨#[]⟩ : ByteArray)) := (blk_cell BK115.out 4).trans rfl; have hcz36_5 : w35.cell? ⟨gb115, 5, none⟩ = some (.string (⟨#[]⟩ : ByteArray)) := (blk_cell BK115.out 5).trans rfl; have hcz36_6 : w35.cell? ⟨gb115, 6, none⟩ = some (.string (⟨#[]⟩ : ByteArray)) := (blk_cell BK115.out 6).trans rfl; have hcz36_7 : w35.cell? ⟨gb115, 7, none⟩ = some (.string (⟨#[]⟩ : ByteArray)) := (blk_cell BK115.out 7).trans rfl; have hcz36_8 : w35.cell? ⟨gb115, 8, none⟩ = some (.bool false) := (blk_cell BK115.out 8).trans rfl; have hfz36_0 := blk_frozen BK115.out 0; have hfz36_1 := blk_frozen BK115.out 1; have hfz36_2 := blk_frozen BK115.out 2; have hfz36_3 := blk_frozen BK115.out 3; have hfz36_4 := blk_frozen BK115.out 4; have hfz36_5 := blk_frozen BK115.out 5; have hfz36_6 := blk_frozen BK115.out 6; have hfz36_7 := blk_frozen BK115.out 7; have hfz36_8 := blk_frozen BK115.out 8; obtain ⟨Ao37, co37, eo37⟩ := Kd.R_slice HO_3.out; subst eo37) | ((with_reducible refine gate_callee (f := 75) rfl ?_); refine goesL_ (some 25) rfl rfl Try.func75 (by kernel_rfl) rfl #[.agg #[.string ((rd_T106 l0 x9_1).f0.f0), .string ((rd_T106 l0 x9_1).f0.f1), .string ((rd_T106 l0 x9_1).f0.f2), .bool ((rd_T106 l0 x9_1).f1), .string ((rd_T106 l0 x9_1).f2), .string ((rd_T106 l0 x9_1).f3), .string ((rd_T106 l0 x9_1).f4), .string ((rd_T106 l0 x9_1).f5), .bool ((rd_T106 l0 x9_1).f6)]] rfl (by (try simp only [List.map_toArray, List.map_cons, List.map_nil]); first | done | rfl | (simp only [List.length_drop, List.length_take]; rfl)) ?_; (with_reducible refine (doc_Part_isText.calls ((rd_T106 l0 x9_1).f0.f0) ((rd_T106 l0 x9_1).f0.f1) ((rd_T106 l0 x9_1).f0.f2) ((rd_T106 l0 x9_1).f1) ((rd_T106 l0 x9_1).f2) ((rd_T106 l0 x9_1).f3) ((rd_T106 l0 x9_1).f4) ((rd_T106 l0 x9_1).f5) ((rd_T106 l0 x9_1).f6) true _ A9.out).mono ?_); rintro e w38 ⟨rfl, hb⟩; refine ⟨_, rfl, ?_⟩; have n0_ := Aside0.mk (Kd.R_below (by (with_reducible repeat (first | apply Kd.R_alloc | apply Kd.R_drewN | apply Kd.R_drew)); exact (Kd.R_mono (Kd.R_far (p := ⟨gb115, 8, none⟩) (Kd.R_far (p := ⟨gb115, 7, none⟩) (Kd.R_far (p := ⟨gb115, 6, none⟩) (Kd.R_far (p := ⟨gb115, 5, none⟩) (Kd.R_far (p := ⟨gb115, 4, none⟩) (Kd.R_far (p := ⟨gb115, 3, none⟩) (Kd.R_far (p := ⟨gb115, 2, none⟩) (Kd.R_far (p := ⟨gb115, 1, none⟩) (Kd.R_far (p := ⟨gb115, 0, none⟩) (Kd.R_mono HO_3.out (fun k_ hk => (⟨hk, hk.2⟩ : _ ∧ k_ ≠ gb115))) (fun _ hk => hk.2) (.string ((rd_T106 l0 x9_1).f0.f0))) (fun _ hk => hk.2) (.string ((rd_T106 l0 x9_1).f0.f1))) (fun _ hk => hk.2) (.string ((rd_T106 l0 x9_1).f0.f2))) (fun _ hk => hk.2) (.bool ((rd_T106 l0 x9_1).f1))) (fun _ hk => hk.2) (.string ((rd_T106 l0 x9_1).f2))) (fun _ hk => hk.2) (.string ((rd_T106 l0 x9_1).f3))) (fun _ hk => hk.2) (.string ((rd_T106 l0 x9_1).f4))) (fun _ hk => hk.2) (.string ((rd_T106 l0 x9_1).f5))) (fun _ hk => hk.2) (.bool ((rd_T106 l0 x9_1).f6))) (fun _ h_ => h_.1))) hb); have n1_ := Aside0.mk (blk_below (g := gb115) (o := .cells #[.string ((rd_T106 l0 x9_1).f0.f0), .string ((rd_T106 l0 x9_1).f0.f1), .string ((rd_T106 l0 x9_1).f0.f2), .bool ((rd_T106 l0 x9_1).f1), .string ((rd_T106 l0 x9_1).f2), .string ((rd_T106 l0 x9_1).f3), .string ((rd_T106 l0 x9_1).f4), .string ((rd_T106 l0 x9_1).f5), .bool ((rd_T106 l0 x9_1).f6)] 106 (0, 0)) (by (with_reducible repeat (first | refine blk_drewN ?_ _ | refine blk_drew ?_ | refine blk_alloc ?_ _)); refine blk_put (cs := #[.string ((rd_T106 l0 x9_1).f0.f0), .string ((rd_T106 l0 x9_1).f0.f1), .string ((rd_T106 l0 x9_1).f0.f2), .bool ((rd_T106 l0 x9_1).f1), .string ((rd_T106 l0 x9_1).f2), .string ((rd_T106 l0 x9_1).f3), .string ((rd_T106 l0 x9_1).f4), .string ((rd_T106 l0 x9_1).f5), .bool false]) ?_ 8 _ rfl; (with_reducible repeat (first | refine blk_drewN ?_ _ | refine blk_drew ?_ | refine blk_alloc ?_ _)); refine blk_put (cs := #[.string ((rd_T106 l0 x9_1).f0.f0), .string ((rd_T106 l0 x9_1).f0.f1), .string ((rd_T106 l0 x9_1).f0.f2), .bool ((rd_T106 l0 x9_1).f1), .string ((rd_T106 l0 x9_1).f2), .string ((rd_T106 l0 x9_1).f3), .string ((rd_T106 l0 x9_1).f4), .string (⟨#[]⟩ : ByteArray), .bool false]) ?_ 7 _ rfl; (with_reducible repeat (first | refine blk_drewN ?_ _ | refine blk_drew ?_ | refine blk_alloc ?_ _)); refine blk_put (cs := #[.string ((rd_T106 l0 x9_1).f0.f0), .string ((rd_T106 l0 x9_1).f0.f1), .string ((rd_T106 l0 x9_1).f0.f2), .bool ((rd_T106 l0 x9_1).f1), .string ((rd_T106 l0 x9_1).f2), .string ((rd_T106 l0 x9_1).f3), .string (⟨#[]⟩ : ByteArray), .string (⟨#[]⟩ : ByteArray), .bool false]) ?_ 6 _ rfl; (with_reducible repeat (first | refine blk_drewN ?_ _ | refine blk_drew ?_ | refine blk_alloc ?_ _)); refine blk_put (cs := #[.string ((rd_T106 l0 x9_1).f0.f0), .string ((rd_T106 l0 x9_1).f0.f1), .string ((rd_T106 l0 x9_1).f0.f2), .bool ((rd_T106 l0 x9_1).f1), .string ((rd_T106 l0 x9_1).f2), .string (⟨#[]⟩ : ByteArray), .string (⟨#[]⟩ : ByteArray), .string (⟨#[]⟩ : ByteArray), .bool false]) ?_ 5 _ rfl; (with_reducible repeat (first | refine blk_drewN ?_ _ | refine blk_drew ?_ | refine blk_alloc ?_ _)); refine blk_put (cs := #[.string ((rd_T106 l0 x9_1).f0.f0), .string ((rd_T106 l0 x9_1).f0.f1), .string ((rd_T106 l0 x9_1).f0.f2), .bool ((rd_T106 l0 x9_1).f1), .string (⟨#[]⟩ : ByteArray), .string (⟨#[]⟩ : ByteArray), .string (⟨#[]⟩ : ByteArray), .string (⟨#[]⟩ : ByteArray), .bool false]) ?_ 4 _ rfl; (with_reducible repeat (first | refine blk_drewN ?_ _ | refine blk_drew ?_ | refine blk_alloc ?_ _)); refine blk_put (cs := #[.string ((rd_T106 l0 x9_1).f0.f0), .string ((rd_T106 l0 x9_1).f0.f1), .string ((rd_T106 l0 x9_1).f0.f2), .bool false, .string (⟨#[]⟩ : ByteArray), .string (⟨#[]⟩ : ByteArray), .string (⟨#[]⟩ : ByteArray), .string (⟨#[]⟩ : ByteArray), .bool false]) ?_ 3 _ rfl; (with_reducible repeat (first | refine blk_drewN ?_ _ | refine blk_drew ?_ | refine blk_alloc ?_ _)); refine blk_put (cs := #[.string ((rd_T106 l0 x9_1).f0.f0), .string ((rd_T106 l0 x9_1).f0.f1), .string (⟨#[]⟩ : ByteArray), .bool false, .string (⟨#[]⟩ : ByteArray), .string (⟨#[]⟩ : ByteArray), .string (⟨#[]⟩ : ByteArray), .string (⟨#[]⟩ : ByteArray), .bool false]) ?_ 2 _ rfl; (with_reducible repeat (first | refine blk_drewN ?_ _ | refine blk_drew ?_ | refine blk_alloc ?_ _)); refine blk_put (cs := #[.string ((rd_T106 l0 x9_1).f0.f0), .string (⟨#[]⟩ : ByteArray), .string (⟨#[]⟩ : ByteArray), .bool false, .string (⟨#[]⟩ : ByteArray), .string (⟨#[]⟩ : ByteArray), .string (⟨#[]⟩ : ByteArray), .string (⟨#[]⟩ : ByteArray), .bool false]) ?_ 1 _ rfl; (with_reducible repeat (first | refine blk_drewN ?_ _ | refine blk_drew ?_ | refine blk_alloc ?_ _)); refine blk_put (cs := #[.string (⟨#[]⟩ : ByteArray), .string (⟨#[]⟩ : ByteArray), .string (⟨#[]⟩ : ByteArray), .bool false, .string (⟨#[]⟩ : ByteArray), .string (⟨#[]⟩ : ByteArray), .string (⟨#[]⟩ : ByteArray), .string (⟨#[]⟩ : ByteArray), .bool false]) ?_ 0 _ rfl; (with_reducible repeat (first | refine blk_drewN ?_ _ | refine blk_drew ?_ | refine blk_alloc ?_ _)); exact BK115.out) hb); have n2_ := Aside0.mk (below_step (by repeat (first | (with_reducible first | exact HB.out | apply below_alloc | apply pw_below_drewN | apply below_drew1 | refine below_set ?_ GE115.out) | exact HB.out)) hb); clear HO_3; clear BK115; clear HB; have HO_3 := n0_; have BK115 := n1_; have HB := n2_; clear n0_ n1_ n2_; (try clear hb); (try clear hb2); (try clear hk); (try clear hi); have hcz39_0 : w38.cell? ⟨gb115, 0, none⟩ = some (.string ((rd_T106 l0 x9_1).f0.f0)) := (blk_cell BK115.out 0).trans rfl; have hcz39_1 : w38.cell? ⟨gb115, 1, none⟩ = some (.string ((rd_T106 l0 x9_1).f0.f1)) := (blk_cell BK115.out 1).trans rfl; have hcz39_2 : w38.cell? ⟨gb115, 2, none⟩ = some (.string ((rd_T106 l0 x9_1).f0.f2)) := (blk_cell BK115.out 2).trans rfl; have hcz39_3 : w38.cell? ⟨gb115, 3, none⟩ = some (.bool ((rd_T106 l0 x9_1).f1)) := (blk_cell BK115.out 3).trans rfl; have hcz39_4 : w38.cell? ⟨gb115, 4, none⟩ = some (.string ((rd_T106 l0 x9_1).f2)) := (blk_cell BK115.out 4).trans rfl; have hcz39_5 : w38.cell? ⟨gb115, 5, none⟩ = some (.string ((rd_T106 l0 x9_1).f3)) := (blk_cell BK115.out 5).trans rfl; have hcz39_6 : w38.cell? ⟨gb115, 6, none⟩ = some (.string ((rd_T106 l0 x9_1).f4)) := (blk_cell BK115.out 6).trans rfl; have hcz39_7 : w38.cell? ⟨gb115, 7, none⟩ = some (.string ((rd_T106 l0 x9_1).f5)) := (blk_cell BK115.out 7).trans rfl; have hcz39_8 : w38.cell? ⟨gb115, 8, none⟩ = some (.bool ((rd_T106 l0 x9_1).f6)) := (blk_cell BK115.out 8).trans rfl; have hfz39_0 := blk_frozen BK115.out 0; have hfz39_1 := blk_frozen BK115.out 1; have hfz39_2 := blk_frozen BK115.out 2; have hfz39_3 := blk_frozen BK115.out 3; have hfz39_4 := blk_frozen BK115.out 4; have hfz39_5 := blk_frozen BK115.out 5; have hfz39_6 := blk_frozen BK115.out 6; have hfz39_7 := blk_frozen BK115.out 7; have hfz39_8 := blk_frozen BK115.out 8) | ((with_reducible refine gate_builtin (b := .append) (xs := #[.tmp 15, .tmp 17]) rfl ?_); at_builtin; refine Kd.R_append k106 (w0 := w) w.heap.size rfl (.tmp 15) (.tmp 17) 29 106 (.agg #[(.string ⟨#[]⟩), (.string ⟨#[]⟩), (.string ⟨#[]⟩), (.bool false), (.string ⟨#[]⟩), (.string ⟨#[]⟩), (.string ⟨#[]⟩), (.string ⟨#[]⟩), (.bool false)]) 128 rfl Try.underlying29 info106 rfl (by decide) (by omega) (.slice Ao37 x3_1.length co37) x3_1 (⟨(⟨(rd_T106 l0 x9_1).f0.f0, (rd_T106 l0 x9_1).f0.f1, (rd_T106 l0 x9_1).f0.f2⟩ : S84), (rd_T106 l0 x9_1).f1, (rd_T106 l0 x9_1).f2, (rd_T106 l0 x9_1).f3, (rd_T106 l0 x9_1).f4, (rd_T106 l0 x9_1).f5, (rd_T106 l0 x9_1).f6⟩ : S106) [.string ((rd_T106 l0 x9_1).f0.f0), .string ((rd_T106 l0 x9_1).f0.f1), .string ((rd_T106 l0 x9_1).f0.f2), .bool ((rd_T106 l0 x9_1).f1), .string ((rd_T106 l0 x9_1).f2), .string ((rd_T106 l0 x9_1).f3), .string ((rd_T106 l0 x9_1).f4), .string ((rd_T106 l0 x9_1).f5), .bool ((rd_T106 l0 x9_1).f6)] (fun k_ => k_ ≠ gb115) (fun _ => False) rfl rfl ?aP (fun _ hk => hk.elim) ?aF ?aO ?aB ?aS ?aL ?_; (case aP => exact k106_mkM _ _ _ (⟨(⟨(rd_T106 l0 x9_1).f0.f0, (rd_T106 l0 x9_1).f0.f1, (rd_T106 l0 x9_1).f0.f2⟩ : S84), (rd_T106 l0 x9_1).f1, (rd_T106 l0 x9_1).f2, (rd_T106 l0 x9_1).f3, (rd_T106 l0 x9_1).f4, (rd_T106 l0 x9_1).f5, (rd_T106 l0 x9_1).f6⟩ : S106)); (case aB => exact (by repeat (first | (with_reducible first | exact HB.out | apply below_alloc | apply pw_below_drewN | apply below_drew1 | refine below_set ?_ GE115.out) | exact HB.out))); (case aF => exact (fun k_ hk => Kd.freshB (g := gb115) (o := .cells #[.string ((rd_T106 l0 x9_1).f0.f0), .string ((rd_T106 l0 x9_1).f0.f1), .string ((rd_T106 l0 x9_1).f0.f2), .bool ((rd_T106 l0 x9_1).f1), .string ((rd_T106 l0 x9_1).f2), .string ((rd_T106 l0 x9_1).f3), .string ((rd_T106 l0 x9_1).f4), .string ((rd_T106 l0 x9_1).f5), .bool ((rd_T106 l0 x9_1).f6)] 106 (0, 0)) (by (with_reducible repeat (first | refine blk_drewN ?_ _ | refine blk_drew ?_ | refine blk_alloc ?_ _)); exact BK115.out) k_ hk)); (case aO => exact (by (with_reducible repeat (first | apply Kd.R_alloc | apply Kd.R_drewN | apply Kd.R_drew)); exact Kd.R_mono HO_3.out (fun _ hk => hk.2))); (case aS => exact (below_size (by repeat (first | (with_reducible first | exact HB.out | apply below_alloc | apply pw_below_drewN | apply below_drew1 | refine below_set ?_ GE115.out) | exact HB.out)))); (case aL => have := LMc34.out; omega); intro v125 w40 ho hb hg hat; rw [← Ny124.out] at ho; have n0_ := Aside0.mk (blk_grown (g := gb115) (o := .cells #[.string ((rd_T106 l0 x9_1).f0.f0), .string ((rd_T106 l0 x9_1).f0.f1), .string ((rd_T106 l0 x9_1).f0.f2), .bool ((rd_T106 l0 x9_1).f1), .string ((rd_T106 l0 x9_1).f2), .string ((rd_T106 l0 x9_1).f3), .string ((rd_T106 l0 x9_1).f4), .string ((rd_T106 l0 x9_1).f5), .bool ((rd_T106 l0 x9_1).f6)] 106 (0, 0)) (by (with_reducible repeat (first | refine blk_drewN ?_ _ | refine blk_drew ?_ | refine blk_alloc ?_ _)); exact BK115.out) hg (Kd.R_away HO_3.out (fun _ hk => hk.2))); have n1_ := Aside0.mk (hb); have n2_ := Aside0.mk (ho); clear BK115; clear HB; clear HO_3; have BK115 := n0_; have HB := n1_; have HO126 := n2_; clear n0_ n1_ n2_; clear ho hb hg hat))
                    go_roundg k1
                    case measure => have := HK1.out; omega
                    case rel => exact ⟨(y124), (wrap64 (x9_1 + 1)), (by first | rfl | (simp; done) | (simp [*]; done)), H', ⟨by have := HK1.out; omega⟩, ⟨by (with_reducible repeat (first | apply Kd.R_alloc | apply Kd.R_drewN | apply Kd.R_drew)); exact Kd.R_mono HO126.out (fun _ hk => trivial)⟩, ⟨by repeat (first | (with_reducible first | exact HB.out | apply below_alloc | apply pw_below_drewN | apply below_drew1 | refine below_set ?_ GE115.out) | exact HB.out)⟩⟩
                  · rw [if_neg c34] at H
                    exact absurd H (by simp)
              · replace c10 := Bool.eq_false_iff.mpr c10
                subst c10
                have H1 : (if x3_1.length < 1099511627776 then (doc_Of.l0 k1 (x3_1 ++ [(⟨(⟨(rd_T106 l0 x9_1).f0.f0, (rd_T106 l0 x9_1).f0.f1, (rd_T106 l0 x9_1).f0.f2⟩ : S84), (rd_T106 l0 x9_1).f1, (rd_T106 l0 x9_1).f2, (rd_T106 l0 x9_1).f3, (rd_T106 l0 x9_1).f4, (rd_T106 l0 x9_1).f5, (rd_T106 l0 x9_1).f6⟩ : S106)]) l0 (l0.length : Int) (wrap64 (x9_1 + 1))) else (none)) = some r := by rw [if_neg (show ¬ (false = true) by decide)] at H; exact H
                clear H
                have H := H1
                clear H1
                by_cases c41 : x3_1.length < 1099511627776
                · rw [if_pos c41] at H
                  have LMc41 := Aside0.mk c41
                  clear c41
                  obtain ⟨y127, hy127⟩ : ∃ y_ : List (S106), y_ = (x3_1 ++ [(⟨(⟨(rd_T106 l0 x9_1).f0.f0, (rd_T106 l0 x9_1).f0.f1, (rd_T106 l0 x9_1).f0.f2⟩ : S84), (rd_T106 l0 x9_1).f1, (rd_T106 l0 x9_1).f2, (rd_T106 l0 x9_1).f3, (rd_T106 l0 x9_1).f4, (rd_T106 l0 x9_1).f5, (rd_T106 l0 x9_1).f6⟩ : S106)]) := ⟨_, rfl⟩
                  replace H : (doc_Of.l0 k1 y127 l0 (l0.length : Int) (wrap64 (x9_1 + 1))) = some r := by first | (rw [hy127]; with_reducible exact H) | (have H2_ := (Option.bind_some _ _).symm.trans H; rw [hy127]; with_reducible exact H2_) | (have H2_ := (Option.bind_some _ _).symm.trans H; with_reducible exact H2_) | with_reducible exact H | (rw [hy127]; exact H) | exact H
                  have Ny127 := Aside0.mk hy127
                  clear hy127
                  have H' := Aside0.mk H
                  clear H
                  have p114 : 0 ≤ (x9_1 : Int) := of_decide_eq_true (by first | (with_reducible assumption) | assumption)
                  have q114 : x9_1 < (l0.length : Int) := of_decide_eq_true (by first | (with_reducible assumption) | assumption)
                  obtain ⟨ad114, e114, hx114_0, hx114_1, hx114_2, hx114_3, hx114_4, hx114_5, hx114_6, hx114_7, hx114_8⟩ := at_T106 HR0.out x9_1 p114 q114
                  cases e114
                  replace hx114_0 := (HB.out.cell (World.block_lt_of_cell? w _ hx114_0)).trans hx114_0
                  replace hx114_1 := (HB.out.cell (World.block_lt_of_cell? w _ hx114_1)).trans hx114_1
                  replace hx114_2 := (HB.out.cell (World.block_lt_of_cell? w _ hx114_2)).trans hx114_2
                  replace hx114_3 := (HB.out.cell (World.block_lt_of_cell? w _ hx114_3)).trans hx114_3
                  replace hx114_4 := (HB.out.cell (World.block_lt_of_cell? w _ hx114_4)).trans hx114_4
                  replace hx114_5 := (HB.out.cell (World.block_lt_of_cell? w _ hx114_5)).trans hx114_5
                  replace hx114_6 := (HB.out.cell (World.block_lt_of_cell? w _ hx114_6)).trans hx114_6
                  replace hx114_7 := (HB.out.cell (World.block_lt_of_cell? w _ hx114_7)).trans hx114_7
                  replace hx114_8 := (HB.out.cell (World.block_lt_of_cell? w _ hx114_8)).trans hx114_8
                  replace p114 := eq_true p114
                  replace q114 := eq_true q114
                  go_wp2_with (first | ((with_reducible refine gate_dst (N := 5) rfl ?_); refine box_event ?hg (N := 5) ?hd (cs := #[.string (⟨#[]⟩ : ByteArray), .string (⟨#[]⟩ : ByteArray), .string (⟨#[]⟩ : ByteArray), .bool false, .string (⟨#[]⟩ : ByteArray), .string (⟨#[]⟩ : ByteArray), .string (⟨#[]⟩ : ByteArray), .string (⟨#[]⟩ : ByteArray), .bool false]) (t := 106) ?hr ?_; (case hd => rfl); (case hg => rfl); (case hr => first | (go_simp; done) | (go_simp; rfl)); intro gb115 hg w42 hbox hb; have n0_ := Aside0.mk (Kd.R_below (Kd.R_elderB (by (with_reducible repeat (first | apply Kd.R_alloc | apply Kd.R_drewN | apply Kd.R_drew)); exact HO_3.out) gb115 (Nat.le_of_eq hg.symm)) hb); have n1_ := Aside0.mk (below_step (by repeat (first | (with_reducible first | exact HB.out | apply below_alloc | apply pw_below_drewN | apply below_drew1) | exact HB.out)) hb); have n2_ := Aside0.mk (hbox); have n3_ := Aside0.mk ((by rw [hg]; exact (below_size (by repeat (first | (with_reducible first | exact HB.out | apply below_alloc | apply pw_below_drewN | apply below_drew1) | exact HB.out))) : w.heap.size ≤ gb115)); have n4_ := Aside0.mk ((by rw [hg]; exact (below_size (by repeat (first | (with_reducible first | exact HB.out | apply below_alloc | apply pw_below_drewN | apply below_drew1) | exact HB.out))) : w.heap.size ≤ gb115)); clear HO_3; clear HB; have HO_3 := n0_; have HB := n1_; have BK115 := n2_; have GW115 := n3_; have GE115 := n4_; clear n0_ n1_ n2_ n3_ n4_; clear hb hbox hg; have hcz43_0 : w42.cell? ⟨gb115, 0, none⟩ = some (.string (⟨#[]⟩ : ByteArray)) := (blk_cell BK115.out 0).trans rfl; have hcz43_1 : w42.cell? ⟨gb115, 1, none⟩ = some (.string (⟨#[]⟩ : ByteArray)) := (blk_cell BK115.out 1).trans rfl; have hcz43_2 : w42.cell? ⟨gb115, 2, none⟩ = some (.string (⟨#[]⟩ : ByteArray)) := (blk_cell BK115.out 2).trans rfl; have hcz43_3 : w42.cell? ⟨gb115, 3, none⟩ = some (.bool false) := (blk_cell BK115.out 3).trans rfl; have hcz43_4 : w42.cell? ⟨gb115, 4, none⟩ = some (.string (⟨#[]⟩ : ByteArray)) := (blk_cell BK115.out 4).trans rfl; have hcz43_5 : w42.cell? ⟨gb115, 5, none⟩ = some (.string (⟨#[]⟩ : ByteArray)) := (blk_cell BK115.out 5).trans rfl; have hcz43_6 : w42.cell? ⟨gb115, 6, none⟩ = some (.string (⟨#[]⟩ : ByteArray)) := (blk_cell BK115.out 6).trans rfl; have hcz43_7 : w42.cell? ⟨gb115, 7, none⟩ = some (.string (⟨#[]⟩ : ByteArray)) := (blk_cell BK115.out 7).trans rfl; have hcz43_8 : w42.cell? ⟨gb115, 8, none⟩ = some (.bool false) := (blk_cell BK115.out 8).trans rfl; have hfz43_0 := blk_frozen BK115.out 0; have hfz43_1 := blk_frozen BK115.out 1; have hfz43_2 := blk_frozen BK115.out 2; have hfz43_3 := blk_frozen BK115.out 3; have hfz43_4 := blk_frozen BK115.out 4; have hfz43_5 := blk_frozen BK115.out 5; have hfz43_6 := blk_frozen BK115.out 6; have hfz43_7 := blk_frozen BK115.out 7; have hfz43_8 := blk_frozen BK115.out 8; obtain ⟨Ao44, co44, eo44⟩ := Kd.R_slice HO_3.out; subst eo44) | ((with_reducible refine gate_callee (f := 75) rfl ?_); refine goesL_ (some 25) rfl rfl Try.func75 (by kernel_rfl) rfl #[.agg #[.string ((rd_T106 l0 x9_1).f0.f0), .string ((rd_T106 l0 x9_1).f0.f1), .string ((rd_T106 l0 x9_1).f0.f2), .bool ((rd_T106 l0 x9_1).f1), .string ((rd_T106 l0 x9_1).f2), .string ((rd_T106 l0 x9_1).f3), .string ((rd_T106 l0 x9_1).f4), .string ((rd_T106 l0 x9_1).f5), .bool ((rd_T106 l0 x9_1).f6)]] rfl (by (try simp only [List.map_toArray, List.map_cons, List.map_nil]); first | done | rfl | (simp only [List.length_drop, List.length_take]; rfl)) ?_; (with_reducible refine (doc_Part_isText.calls ((rd_T106 l0 x9_1).f0.f0) ((rd_T106 l0 x9_1).f0.f1) ((rd_T106 l0 x9_1).f0.f2) ((rd_T106 l0 x9_1).f1) ((rd_T106 l0 x9_1).f2) ((rd_T106 l0 x9_1).f3) ((rd_T106 l0 x9_1).f4) ((rd_T106 l0 x9_1).f5) ((rd_T106 l0 x9_1).f6) false _ A9.out).mono ?_); rintro e w45 ⟨rfl, hb⟩; refine ⟨_, rfl, ?_⟩; have n0_ := Aside0.mk (Kd.R_below (by (with_reducible repeat (first | apply Kd.R_alloc | apply Kd.R_drewN | apply Kd.R_drew)); exact (Kd.R_mono (Kd.R_far (p := ⟨gb115, 8, none⟩) (Kd.R_far (p := ⟨gb115, 7, none⟩) (Kd.R_far (p := ⟨gb115, 6, none⟩) (Kd.R_far (p := ⟨gb115, 5, none⟩) (Kd.R_far (p := ⟨gb115, 4, none⟩) (Kd.R_far (p := ⟨gb115, 3, none⟩) (Kd.R_far (p := ⟨gb115, 2, none⟩) (Kd.R_far (p := ⟨gb115, 1, none⟩) (Kd.R_far (p := ⟨gb115, 0, none⟩) (Kd.R_mono HO_3.out (fun k_ hk => (⟨hk, hk.2⟩ : _ ∧ k_ ≠ gb115))) (fun _ hk => hk.2) (.string ((rd_T106 l0 x9_1).f0.f0))) (fun _ hk => hk.2) (.string ((rd_T106 l0 x9_1).f0.f1))) (fun _ hk => hk.2) (.string ((rd_T106 l0 x9_1).f0.f2))) (fun _ hk => hk.2) (.bool ((rd_T106 l0 x9_1).f1))) (fun _ hk => hk.2) (.string ((rd_T106 l0 x9_1).f2))) (fun _ hk => hk.2) (.string ((rd_T106 l0 x9_1).f3))) (fun _ hk => hk.2) (.string ((rd_T106 l0 x9_1).f4))) (fun _ hk => hk.2) (.string ((rd_T106 l0 x9_1).f5))) (fun _ hk => hk.2) (.bool ((rd_T106 l0 x9_1).f6))) (fun _ h_ => h_.1))) hb); have n1_ := Aside0.mk (blk_below (g := gb115) (o := .cells #[.string ((rd_T106 l0 x9_1).f0.f0), .string ((rd_T106 l0 x9_1).f0.f1), .string ((rd_T106 l0 x9_1).f0.f2), .bool ((rd_T106 l0 x9_1).f1), .string ((rd_T106 l0 x9_1).f2), .string ((rd_T106 l0 x9_1).f3), .string ((rd_T106 l0 x9_1).f4), .string ((rd_T106 l0 x9_1).f5), .bool ((rd_T106 l0 x9_1).f6)] 106 (0, 0)) (by (with_reducible repeat (first | refine blk_drewN ?_ _ | refine blk_drew ?_ | refine blk_alloc ?_ _)); refine blk_put (cs := #[.string ((rd_T106 l0 x9_1).f0.f0), .string ((rd_T106 l0 x9_1).f0.f1), .string ((rd_T106 l0 x9_1).f0.f2), .bool ((rd_T106 l0 x9_1).f1), .string ((rd_T106 l0 x9_1).f2), .string ((rd_T106 l0 x9_1).f3), .string ((rd_T106 l0 x9_1).f4), .string ((rd_T106 l0 x9_1).f5), .bool false]) ?_ 8 _ rfl; (with_reducible repeat (first | refine blk_drewN ?_ _ | refine blk_drew ?_ | refine blk_alloc ?_ _)); refine blk_put (cs := #[.string ((rd_T106 l0 x9_1).f0.f0), .string ((rd_T106 l0 x9_1).f0.f1), .string ((rd_T106 l0 x9_1).f0.f2), .bool ((rd_T106 l0 x9_1).f1), .string ((rd_T106 l0 x9_1).f2), .string ((rd_T106 l0 x9_1).f3), .string ((rd_T106 l0 x9_1).f4), .string (⟨#[]⟩ : ByteArray), .bool false]) ?_ 7 _ rfl; (with_reducible repeat (first | refine blk_drewN ?_ _ | refine blk_drew ?_ | refine blk_alloc ?_ _)); refine blk_put (cs := #[.string ((rd_T106 l0 x9_1).f0.f0), .string ((rd_T106 l0 x9_1).f0.f1), .string ((rd_T106 l0 x9_1).f0.f2), .bool ((rd_T106 l0 x9_1).f1), .string ((rd_T106 l0 x9_1).f2), .string ((rd_T106 l0 x9_1).f3), .string (⟨#[]⟩ : ByteArray), .string (⟨#[]⟩ : ByteArray), .bool false]) ?_ 6 _ rfl; (with_reducible repeat (first | refine blk_drewN ?_ _ | refine blk_drew ?_ | refine blk_alloc ?_ _)); refine blk_put (cs := #[.string ((rd_T106 l0 x9_1).f0.f0), .string ((rd_T106 l0 x9_1).f0.f1), .string ((rd_T106 l0 x9_1).f0.f2), .bool ((rd_T106 l0 x9_1).f1), .string ((rd_T106 l0 x9_1).f2), .string (⟨#[]⟩ : ByteArray), .string (⟨#[]⟩ : ByteArray), .string (⟨#[]⟩ : ByteArray), .bool false]) ?_ 5 _ rfl; (with_reducible repeat (first | refine blk_drewN ?_ _ | refine blk_drew ?_ | refine blk_alloc ?_ _)); refine blk_put (cs := #[.string ((rd_T106 l0 x9_1).f0.f0), .string ((rd_T106 l0 x9_1).f0.f1), .string ((rd_T106 l0 x9_1).f0.f2), .bool ((rd_T106 l0 x9_1).f1), .string (⟨#[]⟩ : ByteArray), .string (⟨#[]⟩ : ByteArray), .string (⟨#[]⟩ : ByteArray), .string (⟨#[]⟩ : ByteArray), .bool false]) ?_ 4 _ rfl; (with_reducible repeat (first | refine blk_drewN ?_ _ | refine blk_drew ?_ | refine blk_alloc ?_ _)); refine blk_put (cs := #[.string ((rd_T106 l0 x9_1).f0.f0), .string ((rd_T106 l0 x9_1).f0.f1), .string ((rd_T106 l0 x9_1).f0.f2), .bool false, .string (⟨#[]⟩ : ByteArray), .string (⟨#[]⟩ : ByteArray), .string (⟨#[]⟩ : ByteArray), .string (⟨#[]⟩ : ByteArray), .bool false]) ?_ 3 _ rfl; (with_reducible repeat (first | refine blk_drewN ?_ _ | refine blk_drew ?_ | refine blk_alloc ?_ _)); refine blk_put (cs := #[.string ((rd_T106 l0 x9_1).f0.f0), .string ((rd_T106 l0 x9_1).f0.f1), .string (⟨#[]⟩ : ByteArray), .bool false, .string (⟨#[]⟩ : ByteArray), .string (⟨#[]⟩ : ByteArray), .string (⟨#[]⟩ : ByteArray), .string (⟨#[]⟩ : ByteArray), .bool false]) ?_ 2 _ rfl; (with_reducible repeat (first | refine blk_drewN ?_ _ | refine blk_drew ?_ | refine blk_alloc ?_ _)); refine blk_put (cs := #[.string ((rd_T106 l0 x9_1).f0.f0), .string (⟨#[]⟩ : ByteArray), .string (⟨#[]⟩ : ByteArray), .bool false, .string (⟨#[]⟩ : ByteArray), .string (⟨#[]⟩ : ByteArray), .string (⟨#[]⟩ : ByteArray), .string (⟨#[]⟩ : ByteArray), .bool false]) ?_ 1 _ rfl; (with_reducible repeat (first | refine blk_drewN ?_ _ | refine blk_drew ?_ | refine blk_alloc ?_ _)); refine blk_put (cs := #[.string (⟨#[]⟩ : ByteArray), .string (⟨#[]⟩ : ByteArray), .string (⟨#[]⟩ : ByteArray), .bool false, .string (⟨#[]⟩ : ByteArray), .string (⟨#[]⟩ : ByteArray), .string (⟨#[]⟩ : ByteArray), .string (⟨#[]⟩ : ByteArray), .bool false]) ?_ 0 _ rfl; (with_reducible repeat (first | refine blk_drewN ?_ _ | refine blk_drew ?_ | refine blk_alloc ?_ _)); exact BK115.out) hb); have n2_ := Aside0.mk (below_step (by repeat (first | (with_reducible first | exact HB.out | apply below_alloc | apply pw_below_drewN | apply below_drew1 | refine below_set ?_ GE115.out) | exact HB.out)) hb); clear HO_3; clear BK115; clear HB; have HO_3 := n0_; have BK115 := n1_; have HB := n2_; clear n0_ n1_ n2_; (try clear hb); (try clear hb2); (try clear hk); (try clear hi); have hcz46_0 : w45.cell? ⟨gb115, 0, none⟩ = some (.string ((rd_T106 l0 x9_1).f0.f0)) := (blk_cell BK115.out 0).trans rfl; have hcz46_1 : w45.cell? ⟨gb115, 1, none⟩ = some (.string ((rd_T106 l0 x9_1).f0.f1)) := (blk_cell BK115.out 1).trans rfl; have hcz46_2 : w45.cell? ⟨gb115, 2, none⟩ = some (.string ((rd_T106 l0 x9_1).f0.f2)) := (blk_cell BK115.out 2).trans rfl; have hcz46_3 : w45.cell? ⟨gb115, 3, none⟩ = some (.bool ((rd_T106 l0 x9_1).f1)) := (blk_cell BK115.out 3).trans rfl; have hcz46_4 : w45.cell? ⟨gb115, 4, none⟩ = some (.string ((rd_T106 l0 x9_1).f2)) := (blk_cell BK115.out 4).trans rfl; have hcz46_5 : w45.cell? ⟨gb115, 5, none⟩ = some (.string ((rd_T106 l0 x9_1).f3)) := (blk_cell BK115.out 5).trans rfl; have hcz46_6 : w45.cell? ⟨gb115, 6, none⟩ = some (.string ((rd_T106 l0 x9_1).f4)) := (blk_cell BK115.out 6).trans rfl; have hcz46_7 : w45.cell? ⟨gb115, 7, none⟩ = some (.string ((rd_T106 l0 x9_1).f5)) := (blk_cell BK115.out 7).trans rfl; have hcz46_8 : w45.cell? ⟨gb115, 8, none⟩ = some (.bool ((rd_T106 l0 x9_1).f6)) := (blk_cell BK115.out 8).trans rfl; have hfz46_0 := blk_frozen BK115.out 0; have hfz46_1 := blk_frozen BK115.out 1; have hfz46_2 := blk_frozen BK115.out 2; have hfz46_3 := blk_frozen BK115.out 3; have hfz46_4 := blk_frozen BK115.out 4; have hfz46_5 := blk_frozen BK115.out 5; have hfz46_6 := blk_frozen BK115.out 6; have hfz46_7 := blk_frozen BK115.out 7; have hfz46_8 := blk_frozen BK115.out 8) | ((with_reducible refine gate_builtin (b := .append) (xs := #[.tmp 15, .tmp 17]) rfl ?_); at_builtin; refine Kd.R_append k106 (w0 := w) w.heap.size rfl (.tmp 15) (.tmp 17) 29 106 (.agg #[(.string ⟨#[]⟩), (.string ⟨#[]⟩), (.string ⟨#[]⟩), (.bool false), (.string ⟨#[]⟩), (.string ⟨#[]⟩), (.string ⟨#[]⟩), (.string ⟨#[]⟩), (.bool false)]) 128 rfl Try.underlying29 info106 rfl (by decide) (by omega) (.slice Ao44 x3_1.length co44) x3_1 (⟨(⟨(rd_T106 l0 x9_1).f0.f0, (rd_T106 l0 x9_1).f0.f1, (rd_T106 l0 x9_1).f0.f2⟩ : S84), (rd_T106 l0 x9_1).f1, (rd_T106 l0 x9_1).f2, (rd_T106 l0 x9_1).f3, (rd_T106 l0 x9_1).f4, (rd_T106 l0 x9_1).f5, (rd_T106 l0 x9_1).f6⟩ : S106) [.string ((rd_T106 l0 x9_1).f0.f0), .string ((rd_T106 l0 x9_1).f0.f1), .string ((rd_T106 l0 x9_1).f0.f2), .bool ((rd_T106 l0 x9_1).f1), .string ((rd_T106 l0 x9_1).f2), .string ((rd_T106 l0 x9_1).f3), .string ((rd_T106 l0 x9_1).f4), .string ((rd_T106 l0 x9_1).f5), .bool ((rd_T106 l0 x9_1).f6)] (fun k_ => k_ ≠ gb115) (fun _ => False) rfl rfl ?aP (fun _ hk => hk.elim) ?aF ?aO ?aB ?aS ?aL ?_; (case aP => exact k106_mkM _ _ _ (⟨(⟨(rd_T106 l0 x9_1).f0.f0, (rd_T106 l0 x9_1).f0.f1, (rd_T106 l0 x9_1).f0.f2⟩ : S84), (rd_T106 l0 x9_1).f1, (rd_T106 l0 x9_1).f2, (rd_T106 l0 x9_1).f3, (rd_T106 l0 x9_1).f4, (rd_T106 l0 x9_1).f5, (rd_T106 l0 x9_1).f6⟩ : S106)); (case aB => exact (by repeat (first | (with_reducible first | exact HB.out | apply below_alloc | apply pw_below_drewN | apply below_drew1 | refine below_set ?_ GE115.out) | exact HB.out))); (case aF => exact (fun k_ hk => Kd.freshB (g := gb115) (o := .cells #[.string ((rd_T106 l0 x9_1).f0.f0), .string ((rd_T106 l0 x9_1).f0.f1), .string ((rd_T106 l0 x9_1).f0.f2), .bool ((rd_T106 l0 x9_1).f1), .string ((rd_T106 l0 x9_1).f2), .string ((rd_T106 l0 x9_1).f3), .string ((rd_T106 l0 x9_1).f4), .string ((rd_T106 l0 x9_1).f5), .bool ((rd_T106 l0 x9_1).f6)] 106 (0, 0)) (by (with_reducible repeat (first | refine blk_drewN ?_ _ | refine blk_drew ?_ | refine blk_alloc ?_ _)); exact BK115.out) k_ hk)); (case aO => exact (by (with_reducible repeat (first | apply Kd.R_alloc | apply Kd.R_drewN | apply Kd.R_drew)); exact Kd.R_mono HO_3.out (fun _ hk => hk.2))); (case aS => exact (below_size (by repeat (first | (with_reducible first | exact HB.out | apply below_alloc | apply pw_below_drewN | apply below_drew1 | refine below_set ?_ GE115.out) | exact HB.out)))); (case aL => have := LMc41.out; omega); intro v128 w47 ho hb hg hat; rw [← Ny127.out] at ho; have n0_ := Aside0.mk (blk_grown (g := gb115) (o := .cells #[.string ((rd_T106 l0 x9_1).f0.f0), .string ((rd_T106 l0 x9_1).f0.f1), .string ((rd_T106 l0 x9_1).f0.f2), .bool ((rd_T106 l0 x9_1).f1), .string ((rd_T106 l0 x9_1).f2), .string ((rd_T106 l0 x9_1).f3), .string ((rd_T106 l0 x9_1).f4), .string ((rd_T106 l0 x9_1).f5), .bool ((rd_T106 l0 x9_1).f6)] 106 (0, 0)) (by (with_reducible repeat (first | refine blk_drewN ?_ _ | refine blk_drew ?_ | refine blk_alloc ?_ _)); exact BK115.out) hg (Kd.R_away HO_3.out (fun _ hk => hk.2))); have n1_ := Aside0.mk (hb); have n2_ := Aside0.mk (ho); clear BK115; clear HB; clear HO_3; have BK115 := n0_; have HB := n1_; have HO129 := n2_; clear n0_ n1_ n2_; clear ho hb hg hat))
                  go_roundg k1
                  case measure => have := HK1.out; omega
                  case rel => exact ⟨(y127), (wrap64 (x9_1 + 1)), (by first | rfl | (simp; done) | (simp [*]; done)), H', ⟨by have := HK1.out; omega⟩, ⟨by (with_reducible repeat (first | apply Kd.R_alloc | apply Kd.R_drewN | apply Kd.R_drew)); exact Kd.R_mono HO129.out (fun _ hk => trivial)⟩, ⟨by repeat (first | (with_reducible first | exact HB.out | apply below_alloc | apply pw_below_drewN | apply below_drew1 | refine below_set ?_ GE115.out) | exact HB.out)⟩⟩
                · rw [if_neg c41] at H
                  exact absurd H (by simp)
          · rw [if_neg c4] at H
            exact absurd H (by simp)
        · rw [if_neg c3] at H
          exact absurd H (by simp)
      · rw [if_neg c2] at H
        have c2b0 : decide (x9_1 < (l0.length : Int)) = false := decide_eq_false c2
        clear c2
        obtain rfl := Option.some.inj H
        go_wp2
        go_ret
        exact ⟨_, by first | rfl | (simp [errW_none, errW_some] <;> rfl) | (simp [*, errW_none, errW_some] <;> rfl), by (with_reducible repeat (first | apply Kd.R_alloc | apply Kd.R_drewN | apply Kd.R_drew)); exact HO_3.out, by repeat (first | (with_reducible first | exact HB.out | apply below_alloc | apply pw_below_drewN | apply below_drew1) | exact HB.out)⟩

end Go.Proofs.Ytfiamddinkokbaa.F
end

-- Written by a driver of ours (wip/tools/drive.py) out of the translation.
section
set_option linter.unusedVariables false
set_option linter.unusedSimpArgs false
namespace Go.Proofs.Ytfiamddinkokbaa.F
open Go.RowKit Go.Proofs.YtfiamddinkokbaaW.PrintWords Go.Proofs.YtfiamddinkokbaaW.PrintLast Go.Proofs.YtfiamddinkokbaaW.PrintMore
attribute [local go_sem] max2_int min2_int max_two min_two max_three min_three max_four min_four   -- for this text's walks alone
set_option linter.unusedVariables false
set_option linter.unusedSimpArgs false

/-! ### doc_Doc_Conflicts: function 65 -/
def doc_Doc_Conflicts.l0 : Nat → Int → List (S106) → Int → Int → Option (Int)
  | 0, _, _, _, _ => none
  | k + 1, x3, x6, x7, x8 => if x8 < x7 then (if 0 ≤ x8 then (if x8 < (x6.length : Int) then (if (rd_T106 x6 x8).f1 = true then (doc_Doc_Conflicts.l0 k (wrap64 (x3 + 1)) x6 x7 (wrap64 (x8 + 1))) else (doc_Doc_Conflicts.l0 k x3 x6 x7 (wrap64 (x8 + 1)))) else (none)) else (none)) else (some x3)
def doc_Doc_Conflicts.f (k : Nat) (l0 : List (S106)) : Option (Int) := doc_Doc_Conflicts.l0 k 0 l0 (l0.length : Int) 0
theorem doc_Doc_Conflicts.mono_l : ∀ k, (∀ y0 y1 y2 y3, LeO (doc_Doc_Conflicts.l0 k y0 y1 y2 y3) (doc_Doc_Conflicts.l0 (k + 1) y0 y1 y2 y3))
  | 0 => fun _ _ _ _ r h => by simp [doc_Doc_Conflicts.l0] at h
  | k + 1 => by
    have ih0 := doc_Doc_Conflicts.mono_l k
    · intro y0 y1 y2 y3
      unfold doc_Doc_Conflicts.l0
      repeat' first
      | (with_reducible exact ih0 _ _ _ _)
      | (with_reducible exact LeO.refl _)
      | (with_reducible exact LeO.none _)
      | (with_reducible refine LeO.ite ?_ ?_)
      | (with_reducible refine LeO.bind ?_ (fun _ => ?_))
      | exact ih0 _ _ _ _
      | exact LeO.none _
      | refine LeO.ite ?_ ?_
      | refine LeO.bind ?_ (fun _ => ?_)
theorem doc_Doc_Conflicts.mono : ∀ a0 k, LeO (doc_Doc_Conflicts.f k a0) (doc_Doc_Conflicts.f (k + 1) a0) := by
  intro a0 k
  have ih0 := doc_Doc_Conflicts.mono_l k
  unfold doc_Doc_Conflicts.f
  repeat' first
      | (with_reducible exact ih0 _ _ _ _)
      | (with_reducible exact LeO.refl _)
      | (with_reducible exact LeO.none _)
      | (with_reducible refine LeO.ite ?_ ?_)
      | (with_reducible refine LeO.bind ?_ (fun _ => ?_))
      | exact ih0 _ _ _ _
      | exact LeO.none _
      | refine LeO.ite ?_ ?_
      | refine LeO.bind ?_ (fun _ => ?_)
set_option maxHeartbeats 8000000 in
set_option maxRecDepth 100000 in
theorem doc_Doc_Conflicts.calls (k : Nat) (A0 : Option Addr) (c0 : Nat) (l0 : List (S106)) (r : Int) (w : World) (hr0 : Kd.C k106 w A0 l0.length l0) (hc0 : l0.length ≤ c0) (h : doc_Doc_Conflicts.f k l0 = some r) :
    Calls Try.prog 65 #[.slice A0 l0.length c0] w fun e w' => e = .returned (.int .i64 r) ∧ Below w.heap.size w w' := by
  have hu106 := Try.underlying106
  have HR0 := Aside0.mk hr0
  have HC0 := Aside0.mk hc0
  clear hr0 hc0
  have HB := Aside0.mk (Below.refl w.heap.size w)
  have H : (doc_Doc_Conflicts.l0 k 0 l0 (l0.length : Int) 0) = some r := h
  clear h
  have H' := Aside0.mk H
  clear H
  go_enter Try.func65, Try.ntmps65
  go_wp2
  go_loopg [3, 8] k (fun kq v3 v8 w' => ∃ (x3_1 : Int) (x8_1 : Int), v3 = .int .i64 x3_1 ∧ v8 = .int .i64 x8_1 ∧ Aside0 (doc_Doc_Conflicts.l0 kq x3_1 l0 (l0.length : Int) x8_1 = some r) ∧ Aside0 (kq ≤ k) ∧ Aside0 (Below w.heap.size w w'))
  case atStart => exact ⟨(0), (0), (by first | rfl | (simp; done) | (simp [*]; done)), (by first | rfl | (simp; done) | (simp [*]; done)), H', ⟨Nat.le_refl _⟩, ⟨by repeat (first | (with_reducible first | exact HB.out | apply below_alloc | apply pw_below_drewN | apply below_drew1) | exact HB.out)⟩⟩
  case round =>
    clear H'
    obtain ⟨x3_1, x8_1, rfl, rfl, HA, HK1, HB⟩ := hrel
    cases gk with
    | zero => exact absurd HA.out (by simp [doc_Doc_Conflicts.l0])
    | succ k1 =>
      have H := HA.out
      clear HA
      simp only [doc_Doc_Conflicts.l0] at H
      by_cases c2 : x8_1 < (l0.length : Int)
      · rw [if_pos c2] at H
        have c2b0 : decide (x8_1 < (l0.length : Int)) = true := decide_eq_true c2
        clear c2
        by_cases c3 : 0 ≤ x8_1
        · rw [if_pos c3] at H
          have c3b0 : decide (0 ≤ x8_1) = true := decide_eq_true c3
          clear c3
          by_cases c4 : x8_1 < (l0.length : Int)
          · rw [if_pos c4] at H
            have c4b0 : decide (x8_1 < (l0.length : Int)) = true := decide_eq_true c4
            clear c4
            obtain ⟨bq5, hbq5⟩ : ∃ b_ : Bool, b_ = ((rd_T106 l0 x8_1).f1) := ⟨_, rfl⟩
            replace H : (if bq5 = true then (doc_Doc_Conflicts.l0 k1 (wrap64 (x3_1 + 1)) l0 (l0.length : Int) (wrap64 (x8_1 + 1))) else (doc_Doc_Conflicts.l0 k1 x3_1 l0 (l0.length : Int) (wrap64 (x8_1 + 1)))) = some r := by rw [← hbq5] at H; exact H
            have Nbq5 := Aside0.mk hbq5
            clear hbq5
            by_cases c6 : bq5 = true
            · subst c6
              have H1 : (doc_Doc_Conflicts.l0 k1 (wrap64 (x3_1 + 1)) l0 (l0.length : Int) (wrap64 (x8_1 + 1))) = some r := by rw [if_pos rfl] at H; exact H
              clear H
              have H := H1
              clear H1
              have H' := Aside0.mk H
              clear H
              have p130 : 0 ≤ (x8_1 : Int) := of_decide_eq_true (by first | (with_reducible assumption) | assumption)
              have q130 : x8_1 < (l0.length : Int) := of_decide_eq_true (by first | (with_reducible assumption) | assumption)
              obtain ⟨ad130, e130, hx130_0, hx130_1, hx130_2, hx130_3, hx130_4, hx130_5, hx130_6, hx130_7, hx130_8⟩ := at_T106 HR0.out x8_1 p130 q130
              (try rw [← Nbq5.out] at hx130_3)
              (try rw [← Nbq5.out] at hx130_8)
              cases e130
              replace hx130_0 := (HB.out.cell (World.block_lt_of_cell? w _ hx130_0)).trans hx130_0
              replace hx130_1 := (HB.out.cell (World.block_lt_of_cell? w _ hx130_1)).trans hx130_1
              replace hx130_2 := (HB.out.cell (World.block_lt_of_cell? w _ hx130_2)).trans hx130_2
              replace hx130_3 := (HB.out.cell (World.block_lt_of_cell? w _ hx130_3)).trans hx130_3
              replace hx130_4 := (HB.out.cell (World.block_lt_of_cell? w _ hx130_4)).trans hx130_4
              replace hx130_5 := (HB.out.cell (World.block_lt_of_cell? w _ hx130_5)).trans hx130_5
              replace hx130_6 := (HB.out.cell (World.block_lt_of_cell? w _ hx130_6)).trans hx130_6
              replace hx130_7 := (HB.out.cell (World.block_lt_of_cell? w _ hx130_7)).trans hx130_7
              replace hx130_8 := (HB.out.cell (World.block_lt_of_cell? w _ hx130_8)).trans hx130_8
              replace p130 := eq_true p130
              replace q130 := eq_true q130
              go_wp2_with (first | ((with_reducible refine gate_dst (N := 5) rfl ?_); refine box_event ?hg (N := 5) ?hd (cs := #[.string (⟨#[]⟩ : ByteArray), .string (⟨#[]⟩ : ByteArray), .string (⟨#[]⟩ : ByteArray), .bool false, .string (⟨#[]⟩ : ByteArray), .string (⟨#[]⟩ : ByteArray), .string (⟨#[]⟩ : ByteArray), .string (⟨#[]⟩ : ByteArray), .bool false]) (t := 106) ?hr ?_; (case hd => rfl); (case hg => rfl); (case hr => first | (go_simp; done) | (go_simp; rfl)); intro gb131 hg w7 hbox hb; have n0_ := Aside0.mk (below_step (by repeat (first | (with_reducible first | exact HB.out | apply below_alloc | apply pw_below_drewN | apply below_drew1) | exact HB.out)) hb); have n1_ := Aside0.mk (hbox); have n2_ := Aside0.mk ((by rw [hg]; exact (below_size (by repeat (first | (with_reducible first | exact HB.out | apply below_alloc | apply pw_below_drewN | apply below_drew1) | exact HB.out))) : w.heap.size ≤ gb131)); have n3_ := Aside0.mk ((by rw [hg]; exact (below_size (by repeat (first | (with_reducible first | exact HB.out | apply below_alloc | apply pw_below_drewN | apply below_drew1) | exact HB.out))) : w.heap.size ≤ gb131)); clear HB; have HB := n0_; have BK131 := n1_; have GW131 := n2_; have GE131 := n3_; clear n0_ n1_ n2_ n3_; clear hb hbox hg; have hcz8_0 : w7.cell? ⟨gb131, 0, none⟩ = some (.string (⟨#[]⟩ : ByteArray)) := (blk_cell BK131.out 0).trans rfl; have hcz8_1 : w7.cell? ⟨gb131, 1, none⟩ = some (.string (⟨#[]⟩ : ByteArray)) := (blk_cell BK131.out 1).trans rfl; have hcz8_2 : w7.cell? ⟨gb131, 2, none⟩ = some (.string (⟨#[]⟩ : ByteArray)) := (blk_cell BK131.out 2).trans rfl; have hcz8_3 : w7.cell? ⟨gb131, 3, none⟩ = some (.bool false) := (blk_cell BK131.out 3).trans rfl; have hcz8_4 : w7.cell? ⟨gb131, 4, none⟩ = some (.string (⟨#[]⟩ : ByteArray)) := (blk_cell BK131.out 4).trans rfl; have hcz8_5 : w7.cell? ⟨gb131, 5, none⟩ = some (.string (⟨#[]⟩ : ByteArray)) := (blk_cell BK131.out 5).trans rfl; have hcz8_6 : w7.cell? ⟨gb131, 6, none⟩ = some (.string (⟨#[]⟩ : ByteArray)) := (blk_cell BK131.out 6).trans rfl; have hcz8_7 : w7.cell? ⟨gb131, 7, none⟩ = some (.string (⟨#[]⟩ : ByteArray)) := (blk_cell BK131.out 7).trans rfl; have hcz8_8 : w7.cell? ⟨gb131, 8, none⟩ = some (.bool false) := (blk_cell BK131.out 8).trans rfl; have hfz8_0 := blk_frozen BK131.out 0; have hfz8_1 := blk_frozen BK131.out 1; have hfz8_2 := blk_frozen BK131.out 2; have hfz8_3 := blk_frozen BK131.out 3; have hfz8_4 := blk_frozen BK131.out 4; have hfz8_5 := blk_frozen BK131.out 5; have hfz8_6 := blk_frozen BK131.out 6; have hfz8_7 := blk_frozen BK131.out 7; have hfz8_8 := blk_frozen BK131.out 8))
              go_roundg k1
              case measure => have := HK1.out; omega
              case rel => exact ⟨(wrap64 (x3_1 + 1)), (wrap64 (x8_1 + 1)), (by first | rfl | (simp; done) | (simp [*]; done)), (by first | rfl | (simp; done) | (simp [*]; done)), H', ⟨by have := HK1.out; omega⟩, ⟨by repeat (first | (with_reducible first | exact HB.out | apply below_alloc | apply pw_below_drewN | apply below_drew1 | refine below_set ?_ GE131.out) | exact HB.out)⟩⟩
            · replace c6 := Bool.eq_false_iff.mpr c6
              subst c6
              have H1 : (doc_Doc_Conflicts.l0 k1 x3_1 l0 (l0.length : Int) (wrap64 (x8_1 + 1))) = some r := by rw [if_neg (show ¬ (false = true) by decide)] at H; exact H
              clear H
              have H := H1
              clear H1
              have H' := Aside0.mk H
              clear H
              have p130 : 0 ≤ (x8_1 : Int) := of_decide_eq_true (by first | (with_reducible assumption) | assumption)
              have q130 : x8_1 < (l0.length : Int) := of_decide_eq_true (by first | (with_reducible assumption) | assumption)
              obtain ⟨ad130, e130, hx130_0, hx130_1, hx130_2, hx130_3, hx130_4, hx130_5, hx130_6, hx130_7, hx130_8⟩ := at_T106 HR0.out x8_1 p130 q130
              (try rw [← Nbq5.out] at hx130_3)
              (try rw [← Nbq5.out] at hx130_8)
              cases e130
              replace hx130_0 := (HB.out.cell (World.block_lt_of_cell? w _ hx130_0)).trans hx130_0
              replace hx130_1 := (HB.out.cell (World.block_lt_of_cell? w _ hx130_1)).trans hx130_1
              replace hx130_2 := (HB.out.cell (World.block_lt_of_cell? w _ hx130_2)).trans hx130_2
              replace hx130_3 := (HB.out.cell (World.block_lt_of_cell? w _ hx130_3)).trans hx130_3
              replace hx130_4 := (HB.out.cell (World.block_lt_of_cell? w _ hx130_4)).trans hx130_4
              replace hx130_5 := (HB.out.cell (World.block_lt_of_cell? w _ hx130_5)).trans hx130_5
              replace hx130_6 := (HB.out.cell (World.block_lt_of_cell? w _ hx130_6)).trans hx130_6
              replace hx130_7 := (HB.out.cell (World.block_lt_of_cell? w _ hx130_7)).trans hx130_7
              replace hx130_8 := (HB.out.cell (World.block_lt_of_cell? w _ hx130_8)).trans hx130_8
              replace p130 := eq_true p130
              replace q130 := eq_true q130
              go_wp2_with (first | ((with_reducible refine gate_dst (N := 5) rfl ?_); refine box_event ?hg (N := 5) ?hd (cs := #[.string (⟨#[]⟩ : ByteArray), .string (⟨#[]⟩ : ByteArray), .string (⟨#[]⟩ : ByteArray), .bool false, .string (⟨#[]⟩ : ByteArray), .string (⟨#[]⟩ : ByteArray), .string (⟨#[]⟩ : ByteArray), .string (⟨#[]⟩ : ByteArray), .bool false]) (t := 106) ?hr ?_; (case hd => rfl); (case hg => rfl); (case hr => first | (go_simp; done) | (go_simp; rfl)); intro gb131 hg w9 hbox hb; have n0_ := Aside0.mk (below_step (by repeat (first | (with_reducible first | exact HB.out | apply below_alloc | apply pw_below_drewN | apply below_drew1) | exact HB.out)) hb); have n1_ := Aside0.mk (hbox); have n2_ := Aside0.mk ((by rw [hg]; exact (below_size (by repeat (first | (with_reducible first | exact HB.out | apply below_alloc | apply pw_below_drewN | apply below_drew1) | exact HB.out))) : w.heap.size ≤ gb131)); have n3_ := Aside0.mk ((by rw [hg]; exact (below_size (by repeat (first | (with_reducible first | exact HB.out | apply below_alloc | apply pw_below_drewN | apply below_drew1) | exact HB.out))) : w.heap.size ≤ gb131)); clear HB; have HB := n0_; have BK131 := n1_; have GW131 := n2_; have GE131 := n3_; clear n0_ n1_ n2_ n3_; clear hb hbox hg; have hcz10_0 : w9.cell? ⟨gb131, 0, none⟩ = some (.string (⟨#[]⟩ : ByteArray)) := (blk_cell BK131.out 0).trans rfl; have hcz10_1 : w9.cell? ⟨gb131, 1, none⟩ = some (.string (⟨#[]⟩ : ByteArray)) := (blk_cell BK131.out 1).trans rfl; have hcz10_2 : w9.cell? ⟨gb131, 2, none⟩ = some (.string (⟨#[]⟩ : ByteArray)) := (blk_cell BK131.out 2).trans rfl; have hcz10_3 : w9.cell? ⟨gb131, 3, none⟩ = some (.bool false) := (blk_cell BK131.out 3).trans rfl; have hcz10_4 : w9.cell? ⟨gb131, 4, none⟩ = some (.string (⟨#[]⟩ : ByteArray)) := (blk_cell BK131.out 4).trans rfl; have hcz10_5 : w9.cell? ⟨gb131, 5, none⟩ = some (.string (⟨#[]⟩ : ByteArray)) := (blk_cell BK131.out 5).trans rfl; have hcz10_6 : w9.cell? ⟨gb131, 6, none⟩ = some (.string (⟨#[]⟩ : ByteArray)) := (blk_cell BK131.out 6).trans rfl; have hcz10_7 : w9.cell? ⟨gb131, 7, none⟩ = some (.string (⟨#[]⟩ : ByteArray)) := (blk_cell BK131.out 7).trans rfl; have hcz10_8 : w9.cell? ⟨gb131, 8, none⟩ = some (.bool false) := (blk_cell BK131.out 8).trans rfl; have hfz10_0 := blk_frozen BK131.out 0; have hfz10_1 := blk_frozen BK131.out 1; have hfz10_2 := blk_frozen BK131.out 2; have hfz10_3 := blk_frozen BK131.out 3; have hfz10_4 := blk_frozen BK131.out 4; have hfz10_5 := blk_frozen BK131.out 5; have hfz10_6 := blk_frozen BK131.out 6; have hfz10_7 := blk_frozen BK131.out 7; have hfz10_8 := blk_frozen BK131.out 8))
              go_roundg k1
              case measure => have := HK1.out; omega
              case rel => exact ⟨(x3_1), (wrap64 (x8_1 + 1)), (by first | rfl | (simp; done) | (simp [*]; done)), (by first | rfl | (simp; done) | (simp [*]; done)), H', ⟨by have := HK1.out; omega⟩, ⟨by repeat (first | (with_reducible first | exact HB.out | apply below_alloc | apply pw_below_drewN | apply below_drew1 | refine below_set ?_ GE131.out) | exact HB.out)⟩⟩
          · rw [if_neg c4] at H
            exact absurd H (by simp)
        · rw [if_neg c3] at H
          exact absurd H (by simp)
      · rw [if_neg c2] at H
        have c2b0 : decide (x8_1 < (l0.length : Int)) = false := decide_eq_false c2
        clear c2
        obtain rfl := Option.some.inj H
        go_wp2
        go_ret
        exact ⟨by first | rfl | (simp [errW_none, errW_some] <;> rfl) | (simp [*, errW_none, errW_some] <;> rfl), by repeat (first | (with_reducible first | exact HB.out | apply below_alloc | apply pw_below_drewN | apply below_drew1) | exact HB.out)⟩

end Go.Proofs.Ytfiamddinkokbaa.F
end

-- Written by a driver of ours (wip/tools/drive.py) out of the translation.
section
set_option linter.unusedVariables false
set_option linter.unusedSimpArgs false
namespace Go.Proofs.Ytfiamddinkokbaa.F
open Go.RowKit Go.Proofs.YtfiamddinkokbaaW.PrintWords Go.Proofs.YtfiamddinkokbaaW.PrintLast Go.Proofs.YtfiamddinkokbaaW.PrintMore
attribute [local go_sem] max2_int min2_int max_two min_two max_three min_three max_four min_four   -- for this text's walks alone
set_option linter.unusedVariables false
set_option linter.unusedSimpArgs false

/-! ### doc_Part_isConflict: function 113 -/
def doc_Part_isConflict.f (a0_0 : ByteArray) (a0_1 : ByteArray) (a0_2 : ByteArray) (a0_3 : Bool) (a0_4 : ByteArray) (a0_5 : ByteArray) (a0_6 : ByteArray) (a0_7 : ByteArray) (a0_8 : Bool) : Option (Bool) := if a0_3 = true then (if a0_4.toList = ([] : List UInt8) then (if a0_8 = true then (some true) else (if a0_6.size + a0_1.size ≤ 9223372036854775807 then (some ((a0_6 ++ a0_1).toList == ([] : List UInt8))) else (none))) else (some false)) else (some false)
set_option maxHeartbeats 8000000 in
set_option maxRecDepth 100000 in
theorem doc_Part_isConflict.calls (a0_0 : ByteArray) (a0_1 : ByteArray) (a0_2 : ByteArray) (a0_3 : Bool) (a0_4 : ByteArray) (a0_5 : ByteArray) (a0_6 : ByteArray) (a0_7 : ByteArray) (a0_8 : Bool) (r : Bool) (w : World) (h : doc_Part_isConflict.f a0_0 a0_1 a0_2 a0_3 a0_4 a0_5 a0_6 a0_7 a0_8 = some r) :
    Calls Try.prog 113 #[.agg #[.string a0_0, .string a0_1, .string a0_2, .bool a0_3, .string a0_4, .string a0_5, .string a0_6, .string a0_7, .bool a0_8]] w fun e w' => e = .returned (.bool r) ∧ Below w.heap.size w w' := by
  have hu106 := Try.underlying106
  have HB := Aside0.mk (Below.refl w.heap.size w)
  have H : (if a0_3 = true then (if a0_4.toList = ([] : List UInt8) then (if a0_8 = true then (some true) else (if a0_6.size + a0_1.size ≤ 9223372036854775807 then (some ((a0_6 ++ a0_1).toList == ([] : List UInt8))) else (none))) else (some false)) else (some false)) = some r := h
  clear h
  by_cases c2 : a0_3 = true
  · subst c2
    have H1 : (if a0_4.toList = ([] : List UInt8) then (if a0_8 = true then (some true) else (if a0_6.size + a0_1.size ≤ 9223372036854775807 then (some ((a0_6 ++ a0_1).toList == ([] : List UInt8))) else (none))) else (some false)) = some r := by rw [if_pos rfl] at H; exact H
    clear H
    have H := H1
    clear H1
    by_cases c3 : a0_4.toList = ([] : List UInt8)
    · rw [if_pos c3] at H
      have c3b0 : (a0_4.toList == ([] : List UInt8)) = true := beq_iff_eq.mpr c3
      have c3b1 : (a0_4.toList != ([] : List UInt8)) = false := bne_eq_false_iff_eq.mpr c3
      clear c3
      by_cases c4 : a0_8 = true
      · subst c4
        have H1 : (some true) = some r := by rw [if_pos rfl] at H; exact H
        clear H
        have H := H1
        clear H1
        obtain rfl := Option.some.inj H
        go_enter Try.func113, Try.ntmps113
        go_wp2_with (first | ((with_reducible refine gate_dst (N := 1) rfl ?_); refine box_event ?hg (N := 1) ?hd (cs := #[.string a0_0, .string a0_1, .string a0_2, .bool true, .string a0_4, .string a0_5, .string a0_6, .string a0_7, .bool true]) (t := 106) ?hr ?_; (case hd => rfl); (case hg => rfl); (case hr => first | (go_simp; done) | (go_simp; rfl)); intro gb132 hg w5 hbox hb; have n0_ := Aside0.mk (below_step (by repeat (first | (with_reducible first | exact HB.out | apply below_alloc | apply pw_below_drewN | apply below_drew1) | exact HB.out)) hb); have n1_ := Aside0.mk (hbox); have n2_ := Aside0.mk ((by rw [hg]; exact (below_size (by repeat (first | (with_reducible first | exact HB.out | apply below_alloc | apply pw_below_drewN | apply below_drew1) | exact HB.out))) : w.heap.size ≤ gb132)); have n3_ := Aside0.mk ((by rw [hg]; exact (below_size (by repeat (first | (with_reducible first | exact HB.out | apply below_alloc | apply pw_below_drewN | apply below_drew1) | exact HB.out))) : w.heap.size ≤ gb132)); clear HB; have HB := n0_; have BK132 := n1_; have GW132 := n2_; have GE132 := n3_; clear n0_ n1_ n2_ n3_; clear hb hbox hg; have hcz6_0 : w5.cell? ⟨gb132, 0, none⟩ = some (.string a0_0) := (blk_cell BK132.out 0).trans rfl; have hcz6_1 : w5.cell? ⟨gb132, 1, none⟩ = some (.string a0_1) := (blk_cell BK132.out 1).trans rfl; have hcz6_2 : w5.cell? ⟨gb132, 2, none⟩ = some (.string a0_2) := (blk_cell BK132.out 2).trans rfl; have hcz6_3 : w5.cell? ⟨gb132, 3, none⟩ = some (.bool true) := (blk_cell BK132.out 3).trans rfl; have hcz6_4 : w5.cell? ⟨gb132, 4, none⟩ = some (.string a0_4) := (blk_cell BK132.out 4).trans rfl; have hcz6_5 : w5.cell? ⟨gb132, 5, none⟩ = some (.string a0_5) := (blk_cell BK132.out 5).trans rfl; have hcz6_6 : w5.cell? ⟨gb132, 6, none⟩ = some (.string a0_6) := (blk_cell BK132.out 6).trans rfl; have hcz6_7 : w5.cell? ⟨gb132, 7, none⟩ = some (.string a0_7) := (blk_cell BK132.out 7).trans rfl; have hcz6_8 : w5.cell? ⟨gb132, 8, none⟩ = some (.bool true) := (blk_cell BK132.out 8).trans rfl; have hfz6_0 := blk_frozen BK132.out 0; have hfz6_1 := blk_frozen BK132.out 1; have hfz6_2 := blk_frozen BK132.out 2; have hfz6_3 := blk_frozen BK132.out 3; have hfz6_4 := blk_frozen BK132.out 4; have hfz6_5 := blk_frozen BK132.out 5; have hfz6_6 := blk_frozen BK132.out 6; have hfz6_7 := blk_frozen BK132.out 7; have hfz6_8 := blk_frozen BK132.out 8))
        go_ret
        exact ⟨by first | rfl | (simp [errW_none, errW_some] <;> rfl) | (simp [*, errW_none, errW_some] <;> rfl), by repeat (first | (with_reducible first | exact HB.out | apply below_alloc | apply pw_below_drewN | apply below_drew1 | refine below_set ?_ GE132.out) | exact HB.out)⟩
      · replace c4 := Bool.eq_false_iff.mpr c4
        subst c4
        have H1 : (if a0_6.size + a0_1.size ≤ 9223372036854775807 then (some ((a0_6 ++ a0_1).toList == ([] : List UInt8))) else (none)) = some r := by rw [if_neg (show ¬ (false = true) by decide)] at H; exact H
        clear H
        have H := H1
        clear H1
        by_cases c7 : a0_6.size + a0_1.size ≤ 9223372036854775807
        · rw [if_pos c7] at H
          have c7b0 := eq_true c7
          have c7b1 : decide (a0_6.size + a0_1.size ≤ 9223372036854775807) = true := decide_eq_true c7
          try have c7b2 : (9223372036854775807 < a0_6.size + a0_1.size) = False := eq_false (Nat.not_lt.2 c7)
          obtain rfl := Option.some.inj H
          go_enter Try.func113, Try.ntmps113
          go_wp2_with (first | ((with_reducible refine gate_dst (N := 1) rfl ?_); refine box_event ?hg (N := 1) ?hd (cs := #[.string a0_0, .string a0_1, .string a0_2, .bool true, .string a0_4, .string a0_5, .string a0_6, .string a0_7, .bool false]) (t := 106) ?hr ?_; (case hd => rfl); (case hg => rfl); (case hr => first | (go_simp; done) | (go_simp; rfl)); intro gb132 hg w8 hbox hb; have n0_ := Aside0.mk (below_step (by repeat (first | (with_reducible first | exact HB.out | apply below_alloc | apply pw_below_drewN | apply below_drew1) | exact HB.out)) hb); have n1_ := Aside0.mk (hbox); have n2_ := Aside0.mk ((by rw [hg]; exact (below_size (by repeat (first | (with_reducible first | exact HB.out | apply below_alloc | apply pw_below_drewN | apply below_drew1) | exact HB.out))) : w.heap.size ≤ gb132)); have n3_ := Aside0.mk ((by rw [hg]; exact (below_size (by repeat (first | (with_reducible first | exact HB.out | apply below_alloc | apply pw_below_drewN | apply below_drew1) | exact HB.out))) : w.heap.size ≤ gb132)); clear HB; have HB := n0_; have BK132 := n1_; have GW132 := n2_; have GE132 := n3_; clear n0_ n1_ n2_ n3_; clear hb hbox hg; have hcz9_0 : w8.cell? ⟨gb132, 0, none⟩ = some (.string a0_0) := (blk_cell BK132.out 0).trans rfl; have hcz9_1 : w8.cell? ⟨gb132, 1, none⟩ = some (.string a0_1) := (blk_cell BK132.out 1).trans rfl; have hcz9_2 : w8.cell? ⟨gb132, 2, none⟩ = some (.string a0_2) := (blk_cell BK132.out 2).trans rfl; have hcz9_3 : w8.cell? ⟨gb132, 3, none⟩ = some (.bool true) := (blk_cell BK132.out 3).trans rfl; have hcz9_4 : w8.cell? ⟨gb132, 4, none⟩ = some (.string a0_4) := (blk_cell BK132.out 4).trans rfl; have hcz9_5 : w8.cell? ⟨gb132, 5, none⟩ = some (.string a0_5) := (blk_cell BK132.out 5).trans rfl; have hcz9_6 : w8.cell? ⟨gb132, 6, none⟩ = some (.string a0_6) := (blk_cell BK132.out 6).trans rfl; have hcz9_7 : w8.cell? ⟨gb132, 7, none⟩ = some (.string a0_7) := (blk_cell BK132.out 7).trans rfl; have hcz9_8 : w8.cell? ⟨gb132, 8, none⟩ = some (.bool false) := (blk_cell BK132.out 8).trans rfl; have hfz9_0 := blk_frozen BK132.out 0; have hfz9_1 := blk_frozen BK132.out 1; have hfz9_2 := blk_frozen BK132.out 2; have hfz9_3 := blk_frozen BK132.out 3; have hfz9_4 := blk_frozen BK132.out 4; have hfz9_5 := blk_frozen BK132.out 5; have hfz9_6 := blk_frozen BK132.out 6; have hfz9_7 := blk_frozen BK132.out 7; have hfz9_8 := blk_frozen BK132.out 8))
          go_ret
          exact ⟨by first | rfl | (simp [errW_none, errW_some] <;> rfl) | (simp [*, errW_none, errW_some] <;> rfl), by repeat (first | (with_reducible first | exact HB.out | apply below_alloc | apply pw_below_drewN | apply below_drew1 | refine below_set ?_ GE132.out) | exact HB.out)⟩
        · rw [if_neg c7] at H
          exact absurd H (by simp)
    · rw [if_neg c3] at H
      have c3b0 : (a0_4.toList == ([] : List UInt8)) = false := beq_eq_false_iff_ne.mpr c3
      have c3b1 : (a0_4.toList != ([] : List UInt8)) = true := bne_iff_ne.mpr c3
      obtain rfl := Option.some.inj H
      go_enter Try.func113, Try.ntmps113
      go_wp2_with (first | ((with_reducible refine gate_dst (N := 1) rfl ?_); refine box_event ?hg (N := 1) ?hd (cs := #[.string a0_0, .string a0_1, .string a0_2, .bool true, .string a0_4, .string a0_5, .string a0_6, .string a0_7, .bool a0_8]) (t := 106) ?hr ?_; (case hd => rfl); (case hg => rfl); (case hr => first | (go_simp; done) | (go_simp; rfl)); intro gb132 hg w10 hbox hb; have n0_ := Aside0.mk (below_step (by repeat (first | (with_reducible first | exact HB.out | apply below_alloc | apply pw_below_drewN | apply below_drew1) | exact HB.out)) hb); have n1_ := Aside0.mk (hbox); have n2_ := Aside0.mk ((by rw [hg]; exact (below_size (by repeat (first | (with_reducible first | exact HB.out | apply below_alloc | apply pw_below_drewN | apply below_drew1) | exact HB.out))) : w.heap.size ≤ gb132)); have n3_ := Aside0.mk ((by rw [hg]; exact (below_size (by repeat (first | (with_reducible first | exact HB.out | apply below_alloc | apply pw_below_drewN | apply below_drew1) | exact HB.out))) : w.heap.size ≤ gb132)); clear HB; have HB := n0_; have BK132 := n1_; have GW132 := n2_; have GE132 := n3_; clear n0_ n1_ n2_ n3_; clear hb hbox hg; have hcz11_0 : w10.cell? ⟨gb132, 0, none⟩ = some (.string a0_0) := (blk_cell BK132.out 0).trans rfl; have hcz11_1 : w10.cell? ⟨gb132, 1, none⟩ = some (.string a0_1) := (blk_cell BK132.out 1).trans rfl; have hcz11_2 : w10.cell? ⟨gb132, 2, none⟩ = some (.string a0_2) := (blk_cell BK132.out 2).trans rfl; have hcz11_3 : w10.cell? ⟨gb132, 3, none⟩ = some (.bool true) := (blk_cell BK132.out 3).trans rfl; have hcz11_4 : w10.cell? ⟨gb132, 4, none⟩ = some (.string a0_4) := (blk_cell BK132.out 4).trans rfl; have hcz11_5 : w10.cell? ⟨gb132, 5, none⟩ = some (.string a0_5) := (blk_cell BK132.out 5).trans rfl; have hcz11_6 : w10.cell? ⟨gb132, 6, none⟩ = some (.string a0_6) := (blk_cell BK132.out 6).trans rfl; have hcz11_7 : w10.cell? ⟨gb132, 7, none⟩ = some (.string a0_7) := (blk_cell BK132.out 7).trans rfl; have hcz11_8 : w10.cell? ⟨gb132, 8, none⟩ = some (.bool a0_8) := (blk_cell BK132.out 8).trans rfl; have hfz11_0 := blk_frozen BK132.out 0; have hfz11_1 := blk_frozen BK132.out 1; have hfz11_2 := blk_frozen BK132.out 2; have hfz11_3 := blk_frozen BK132.out 3; have hfz11_4 := blk_frozen BK132.out 4; have hfz11_5 := blk_frozen BK132.out 5; have hfz11_6 := blk_frozen BK132.out 6; have hfz11_7 := blk_frozen BK132.out 7; have hfz11_8 := blk_frozen BK132.out 8))
      go_ret
      exact ⟨by first | rfl | (simp [errW_none, errW_some] <;> rfl) | (simp [*, errW_none, errW_some] <;> rfl), by repeat (first | (with_reducible first | exact HB.out | apply below_alloc | apply pw_below_drewN | apply below_drew1 | refine below_set ?_ GE132.out) | exact HB.out)⟩
  · replace c2 := Bool.eq_false_iff.mpr c2
    subst c2
    have H1 : (some false) = some r := by rw [if_neg (show ¬ (false = true) by decide)] at H; exact H
    clear H
    have H := H1
    clear H1
    obtain rfl := Option.some.inj H
    go_enter Try.func113, Try.ntmps113
    go_wp2_with (first | ((with_reducible refine gate_dst (N := 1) rfl ?_); refine box_event ?hg (N := 1) ?hd (cs := #[.string a0_0, .string a0_1, .string a0_2, .bool false, .string a0_4, .string a0_5, .string a0_6, .string a0_7, .bool a0_8]) (t := 106) ?hr ?_; (case hd => rfl); (case hg => rfl); (case hr => first | (go_simp; done) | (go_simp; rfl)); intro gb132 hg w12 hbox hb; have n0_ := Aside0.mk (below_step (by repeat (first | (with_reducible first | exact HB.out | apply below_alloc | apply pw_below_drewN | apply below_drew1) | exact HB.out)) hb); have n1_ := Aside0.mk (hbox); have n2_ := Aside0.mk ((by rw [hg]; exact (below_size (by repeat (first | (with_reducible first | exact HB.out | apply below_alloc | apply pw_below_drewN | apply below_drew1) | exact HB.out))) : w.heap.size ≤ gb132)); have n3_ := Aside0.mk ((by rw [hg]; exact (below_size (by repeat (first | (with_reducible first | exact HB.out | apply below_alloc | apply pw_below_drewN | apply below_drew1) | exact HB.out))) : w.heap.size ≤ gb132)); clear HB; have HB := n0_; have BK132 := n1_; have GW132 := n2_; have GE132 := n3_; clear n0_ n1_ n2_ n3_; clear hb hbox hg; have hcz13_0 : w12.cell? ⟨gb132, 0, none⟩ = some (.string a0_0) := (blk_cell BK132.out 0).trans rfl; have hcz13_1 : w12.cell? ⟨gb132, 1, none⟩ = some (.string a0_1) := (blk_cell BK132.out 1).trans rfl; have hcz13_2 : w12.cell? ⟨gb132, 2, none⟩ = some (.string a0_2) := (blk_cell BK132.out 2).trans rfl; have hcz13_3 : w12.cell? ⟨gb132, 3, none⟩ = some (.bool false) := (blk_cell BK132.out 3).trans rfl; have hcz13_4 : w12.cell? ⟨gb132, 4, none⟩ = some (.string a0_4) := (blk_cell BK132.out 4).trans rfl; have hcz13_5 : w12.cell? ⟨gb132, 5, none⟩ = some (.string a0_5) := (blk_cell BK132.out 5).trans rfl; have hcz13_6 : w12.cell? ⟨gb132, 6, none⟩ = some (.string a0_6) := (blk_cell BK132.out 6).trans rfl; have hcz13_7 : w12.cell? ⟨gb132, 7, none⟩ = some (.string a0_7) := (blk_cell BK132.out 7).trans rfl; have hcz13_8 : w12.cell? ⟨gb132, 8, none⟩ = some (.bool a0_8) := (blk_cell BK132.out 8).trans rfl; have hfz13_0 := blk_frozen BK132.out 0; have hfz13_1 := blk_frozen BK132.out 1; have hfz13_2 := blk_frozen BK132.out 2; have hfz13_3 := blk_frozen BK132.out 3; have hfz13_4 := blk_frozen BK132.out 4; have hfz13_5 := blk_frozen BK132.out 5; have hfz13_6 := blk_frozen BK132.out 6; have hfz13_7 := blk_frozen BK132.out 7; have hfz13_8 := blk_frozen BK132.out 8))
    go_ret
    exact ⟨by first | rfl | (simp [errW_none, errW_some] <;> rfl) | (simp [*, errW_none, errW_some] <;> rfl), by repeat (first | (with_reducible first | exact HB.out | apply below_alloc | apply pw_below_drewN | apply below_drew1 | refine below_set ?_ GE132.out) | exact HB.out)⟩

end Go.Proofs.Ytfiamddinkokbaa.F
end

-- Written by a driver of ours (wip/tools/drive.py) out of the translation.
section
set_option linter.unusedVariables false
set_option linter.unusedSimpArgs false
namespace Go.Proofs.Ytfiamddinkokbaa.F
open Go.RowKit Go.Proofs.YtfiamddinkokbaaW.PrintWords Go.Proofs.YtfiamddinkokbaaW.PrintLast Go.Proofs.YtfiamddinkokbaaW.PrintMore
attribute [local go_sem] max2_int min2_int max_two min_two max_three min_three max_four min_four   -- for this text's walks alone
set_option linter.unusedVariables false
set_option linter.unusedSimpArgs false

/-! ### strings_Contains: function 84 -/
def strings_Contains.f (a0 a1 : ByteArray) : Option Bool := if a1.size = 1 then some (decide (0 ≤ Lib.indexByte a0.data.toList (a1.data.toList.headD 0))) else none
theorem strings_Contains.calls (a0 : ByteArray) (a1 : ByteArray) (r : Bool) (w : World) (h : strings_Contains.f a0 a1 = some r) :
    Calls Try.prog 84 #[.string a0, .string a1] w fun e w' => e = .returned (.bool r) ∧ Drawn0 w w' := by
  exact ext_contains a0 a1 r w h

end Go.Proofs.Ytfiamddinkokbaa.F
end

-- Written by a driver of ours (wip/tools/drive.py) out of the translation.
section
set_option linter.unusedVariables false
set_option linter.unusedSimpArgs false
namespace Go.Proofs.Ytfiamddinkokbaa.F
open Go.RowKit Go.Proofs.YtfiamddinkokbaaW.PrintWords Go.Proofs.YtfiamddinkokbaaW.PrintLast Go.Proofs.YtfiamddinkokbaaW.PrintMore
attribute [local go_sem] max2_int min2_int max_two min_two max_three min_three max_four min_four   -- for this text's walks alone
set_option linter.unusedVariables false
set_option linter.unusedSimpArgs false

/-! ### doc_Labels_Plain: function 114 -/
def doc_Labels_Plain.f (a0_0 : ByteArray) (a0_1 : ByteArray) (a0_2 : ByteArray) : Option (Bool) := if a0_0.size + a0_1.size ≤ 9223372036854775807 then (if (a0_0 ++ a0_1).size + a0_2.size ≤ 9223372036854775807 then ((strings_Contains.f ((a0_0 ++ a0_1) ++ a0_2) (⟨#[10]⟩ : ByteArray)).bind fun t134 => (some (!t134))) else (none)) else (none)
set_option maxHeartbeats 8000000 in
set_option maxRecDepth 100000 in
theorem doc_Labels_Plain.calls (a0_0 : ByteArray) (a0_1 : ByteArray) (a0_2 : ByteArray) (r : Bool) (w : World) (h : doc_Labels_Plain.f a0_0 a0_1 a0_2 = some r) :
    Calls Try.prog 114 #[.agg #[.string a0_0, .string a0_1, .string a0_2]] w fun e w' => e = .returned (.bool r) ∧ Below w.heap.size w w' := by
  have hu84 := Try.underlying84
  have HB := Aside0.mk (Below.refl w.heap.size w)
  have H : (if a0_0.size + a0_1.size ≤ 9223372036854775807 then (if (a0_0 ++ a0_1).size + a0_2.size ≤ 9223372036854775807 then ((strings_Contains.f ((a0_0 ++ a0_1) ++ a0_2) (⟨#[10]⟩ : ByteArray)).bind fun t134 => (some (!t134))) else (none)) else (none)) = some r := h
  clear h
  by_cases c2 : a0_0.size + a0_1.size ≤ 9223372036854775807
  · rw [if_pos c2] at H
    have c2b0 := eq_true c2
    have c2b1 : decide (a0_0.size + a0_1.size ≤ 9223372036854775807) = true := decide_eq_true c2
    try have c2b2 : (9223372036854775807 < a0_0.size + a0_1.size) = False := eq_false (Nat.not_lt.2 c2)
    by_cases c3 : (a0_0 ++ a0_1).size + a0_2.size ≤ 9223372036854775807
    · rw [if_pos c3] at H
      have c3b0 := eq_true c3
      have c3b1 : decide ((a0_0 ++ a0_1).size + a0_2.size ≤ 9223372036854775807) = true := decide_eq_true c3
      try have c3b2 : (9223372036854775807 < (a0_0 ++ a0_1).size + a0_2.size) = False := eq_false (Nat.not_lt.2 c3)
      try have c3b3 : (9223372036854775807 < a0_0.size + a0_1.size + a0_2.size) = False := eq_false (Nat.not_lt.2 (Nat.le_trans (Nat.le_of_eq (by first | rfl | (simp only [ByteArray.size_append]; done) | (simp only [ByteArray.size_append]; rfl))) c3))
      replace H := Option.bind_eq_some_iff.mp H
      obtain ⟨t134, A40, H⟩ := H
      replace H : (some (!t134)) = some r := H
      have A4 := Aside0.mk A40
      clear A40
      obtain rfl := Option.some.inj H
      go_enter Try.func114, Try.ntmps114
      go_wp2_with (first | ((with_reducible refine gate_dst (N := 1) rfl ?_); refine box_event ?hg (N := 1) ?hd (cs := #[.string a0_0, .string a0_1, .string a0_2]) (t := 84) ?hr ?_; (case hd => rfl); (case hg => rfl); (case hr => first | (go_simp; done) | (go_simp; rfl)); intro gb133 hg w5 hbox hb; have n0_ := Aside0.mk (below_step (by repeat (first | (with_reducible first | exact HB.out | apply below_alloc | apply pw_below_drewN | apply below_drew1) | exact HB.out)) hb); have n1_ := Aside0.mk (hbox); have n2_ := Aside0.mk ((by rw [hg]; exact (below_size (by repeat (first | (with_reducible first | exact HB.out | apply below_alloc | apply pw_below_drewN | apply below_drew1) | exact HB.out))) : w.heap.size ≤ gb133)); have n3_ := Aside0.mk ((by rw [hg]; exact (below_size (by repeat (first | (with_reducible first | exact HB.out | apply below_alloc | apply pw_below_drewN | apply below_drew1) | exact HB.out))) : w.heap.size ≤ gb133)); clear HB; have HB := n0_; have BK133 := n1_; have GW133 := n2_; have GE133 := n3_; clear n0_ n1_ n2_ n3_; clear hb hbox hg; have hcz6_0 : w5.cell? ⟨gb133, 0, none⟩ = some (.string a0_0) := (blk_cell BK133.out 0).trans rfl; have hcz6_1 : w5.cell? ⟨gb133, 1, none⟩ = some (.string a0_1) := (blk_cell BK133.out 1).trans rfl; have hcz6_2 : w5.cell? ⟨gb133, 2, none⟩ = some (.string a0_2) := (blk_cell BK133.out 2).trans rfl; have hfz6_0 := blk_frozen BK133.out 0; have hfz6_1 := blk_frozen BK133.out 1; have hfz6_2 := blk_frozen BK133.out 2) | ((with_reducible refine gate_callee (f := 84) rfl ?_); refine goesL_ (some 11) rfl rfl Try.func84 (by kernel_rfl) rfl #[.string ((a0_0 ++ a0_1) ++ a0_2), .string (⟨#[10]⟩ : ByteArray)] rfl (by (try simp only [List.map_toArray, List.map_cons, List.map_nil]); first | done | rfl | (simp only [List.length_drop, List.length_take]; rfl)) ?_; (with_reducible refine (strings_Contains.calls ((a0_0 ++ a0_1) ++ a0_2) (⟨#[10]⟩ : ByteArray) t134 _ A4.out).mono ?_); rintro e w' ⟨rfl, ⟨nd, rfl⟩⟩; refine ⟨_, rfl, ?_⟩))
      go_ret
      exact ⟨by first | rfl | (simp [errW_none, errW_some] <;> rfl) | (simp [*, errW_none, errW_some] <;> rfl), by repeat (first | (with_reducible first | exact HB.out | apply below_alloc | apply pw_below_drewN | apply below_drew1 | refine below_set ?_ GE133.out) | exact HB.out)⟩
    · rw [if_neg c3] at H
      exact absurd H (by simp)
  · rw [if_neg c2] at H
    exact absurd H (by simp)

end Go.Proofs.Ytfiamddinkokbaa.F
end

-- Written by a driver of ours (wip/tools/drive.py) out of the translation.
section
set_option linter.unusedVariables false
set_option linter.unusedSimpArgs false
namespace Go.Proofs.Ytfiamddinkokbaa.F
open Go.RowKit Go.Proofs.YtfiamddinkokbaaW.PrintWords Go.Proofs.YtfiamddinkokbaaW.PrintLast Go.Proofs.YtfiamddinkokbaaW.PrintMore
attribute [local go_sem] max2_int min2_int max_two min_two max_three min_three max_four min_four   -- for this text's walks alone
set_option linter.unusedVariables false
set_option linter.unusedSimpArgs false

/-! ### stringslite_HasSuffix: function 142 -/
def stringslite_HasSuffix.f (a0 : ByteArray) (a1 : ByteArray) : Option (Bool) := if (a0.size : Int) ≥ (a1.size : Int) then (if 0 ≤ (wrap64 ((a0.size : Int) - (a1.size : Int))) then (if (wrap64 ((a0.size : Int) - (a1.size : Int))) ≤ (a0.size : Int) then (some ((a0.extract ((wrap64 ((a0.size : Int) - (a1.size : Int))) : Int).toNat a0.size).toList == a1.toList)) else (none)) else (none)) else (some false)
set_option maxHeartbeats 8000000 in
set_option maxRecDepth 100000 in
theorem stringslite_HasSuffix.calls (a0 : ByteArray) (a1 : ByteArray) (r : Bool) (w : World) (h : stringslite_HasSuffix.f a0 a1 = some r) :
    Calls Try.prog 142 #[.string a0, .string a1] w fun e w' => e = .returned (.bool r) ∧ Drawn0 w w' := by
  have H : (if (a0.size : Int) ≥ (a1.size : Int) then (if 0 ≤ (wrap64 ((a0.size : Int) - (a1.size : Int))) then (if (wrap64 ((a0.size : Int) - (a1.size : Int))) ≤ (a0.size : Int) then (some ((a0.extract ((wrap64 ((a0.size : Int) - (a1.size : Int))) : Int).toNat a0.size).toList == a1.toList)) else (none)) else (none)) else (some false)) = some r := h
  clear h
  by_cases c3 : (a0.size : Int) ≥ (a1.size : Int)
  · rw [if_pos c3] at H
    have c3b0 : decide ((a1.size : Int) ≤ (a0.size : Int)) = true := decide_eq_true c3
    have c3b1 : decide (a1.size ≤ a0.size) = true := decide_eq_true (Int.ofNat_le.mp c3)
    clear c3
    obtain ⟨ji4, hji4⟩ : ∃ j_ : Int, (wrap64 ((a0.size : Int) - (a1.size : Int))) = j_ := ⟨_, rfl⟩
    replace H : (if 0 ≤ (ji4) then (if (ji4) ≤ (a0.size : Int) then (some ((a0.extract ((ji4) : Int).toNat a0.size).toList == a1.toList)) else (none)) else (none)) = some r := by first | (rw [hji4] at H; exact H) | (simp only [hji4] at H ⊢; exact H)
    have hji4w : (IntKind.i64.wrap ((a0.size : Int) - (a1.size : Int))) = ji4 := (i64_w _).trans hji4
    by_cases c5 : 0 ≤ (ji4)
    · rw [if_pos c5] at H
      have c5b0 := eq_true c5
      have c5b1 : decide (0 ≤ (ji4)) = true := decide_eq_true c5
      clear c5
      by_cases c6 : (ji4) ≤ (a0.size : Int)
      · rw [if_pos c6] at H
        have c6b0 := eq_true c6
        have c6b1 : decide ((ji4) ≤ (a0.size : Int)) = true := decide_eq_true c6
        clear c6
        obtain rfl := Option.some.inj H
        go_enter Try.func142, Try.ntmps142
        go_wp2
        go_ret
        exact ⟨by first | rfl | (simp; done) | (simp only [← hji4] <;> (first | rfl | simp)) | (simp [*]; done), by repeat (first | exact Drawn0.refl _ | apply Drawn0.step)⟩
      · rw [if_neg c6] at H
        exact absurd H (by simp)
    · rw [if_neg c5] at H
      exact absurd H (by simp)
  · rw [if_neg c3] at H
    have c3b0 : decide ((a1.size : Int) ≤ (a0.size : Int)) = false := decide_eq_false c3
    have c3b1 : decide (a1.size ≤ a0.size) = false := decide_eq_false (fun h => c3 (Int.ofNat_le.mpr h))
    clear c3
    obtain rfl := Option.some.inj H
    go_enter Try.func142, Try.ntmps142
    go_wp2
    go_ret
    exact ⟨by first | rfl | (simp; done) | (simp [*]; done), by repeat (first | exact Drawn0.refl _ | apply Drawn0.step)⟩

end Go.Proofs.Ytfiamddinkokbaa.F
end

-- Written by a driver of ours (wip/tools/drive.py) out of the translation.
section
set_option linter.unusedVariables false
set_option linter.unusedSimpArgs false
namespace Go.Proofs.Ytfiamddinkokbaa.F
open Go.RowKit Go.Proofs.YtfiamddinkokbaaW.PrintWords Go.Proofs.YtfiamddinkokbaaW.PrintLast Go.Proofs.YtfiamddinkokbaaW.PrintMore
attribute [local go_sem] max2_int min2_int max_two min_two max_three min_three max_four min_four   -- for this text's walks alone
set_option linter.unusedVariables false
set_option linter.unusedSimpArgs false

/-! ### strings_HasSuffix: function 115 -/
def strings_HasSuffix.f (a0 : ByteArray) (a1 : ByteArray) : Option (Bool) := (stringslite_HasSuffix.f a0 a1).bind fun t135 => (some t135)
set_option maxHeartbeats 8000000 in
set_option maxRecDepth 100000 in
theorem strings_HasSuffix.calls (a0 : ByteArray) (a1 : ByteArray) (r : Bool) (w : World) (h : strings_HasSuffix.f a0 a1 = some r) :
    Calls Try.prog 115 #[.string a0, .string a1] w fun e w' => e = .returned (.bool r) ∧ Drawn0 w w' := by
  have H : ((stringslite_HasSuffix.f a0 a1).bind fun t135 => (some t135)) = some r := h
  clear h
  replace H := Option.bind_eq_some_iff.mp H
  obtain ⟨t135, A30, H⟩ := H
  replace H : (some t135) = some r := H
  have A3 := Aside0.mk A30
  clear A30
  obtain rfl := Option.some.inj H
  go_enter Try.func115, Try.ntmps115
  go_wp2_with (first | ((with_reducible refine gate_callee (f := 142) rfl ?_); refine goesL_ (some 7) rfl rfl Try.func142 (by kernel_rfl) rfl #[.string a0, .string a1] rfl (by (try simp only [List.map_toArray, List.map_cons, List.map_nil]); first | done | rfl | (simp only [List.length_drop, List.length_take]; rfl)) ?_; (with_reducible refine (stringslite_HasSuffix.calls a0 a1 t135 _ A3.out).mono ?_); rintro e w' ⟨rfl, ⟨nd, rfl⟩⟩; refine ⟨_, rfl, ?_⟩))
  go_ret
  exact ⟨by first | rfl | (simp; done) | (simp [*]; done), by repeat (first | exact Drawn0.refl _ | apply Drawn0.step)⟩

end Go.Proofs.Ytfiamddinkokbaa.F
end

-- Written by a driver of ours (wip/tools/drive.py) out of the translation.
section
set_option linter.unusedVariables false
set_option linter.unusedSimpArgs false
namespace Go.Proofs.Ytfiamddinkokbaa.F
open Go.RowKit Go.Proofs.YtfiamddinkokbaaW.PrintWords Go.Proofs.YtfiamddinkokbaaW.PrintLast Go.Proofs.YtfiamddinkokbaaW.PrintMore
attribute [local go_sem] max2_int min2_int max_two min_two max_three min_three max_four min_four   -- for this text's walks alone
set_option linter.unusedVariables false
set_option linter.unusedSimpArgs false

/-! ### doc_Doc_Right: function 72 -/
mutual
def doc_Doc_Right.l0 : Nat → List (S106) → Bool → List (S106) → Int → Int → Option (Bool)
  | 0, _, _, _, _, _ => none
  | k + 1, x0, x3, x6, x7, x8 => if x8 < x7 then (if 0 ≤ x8 then (if x8 < (x6.length : Int) then ((doc_Part_isText.f ((rd_T106 x6 x8).f0.f0) ((rd_T106 x6 x8).f0.f1) ((rd_T106 x6 x8).f0.f2) ((rd_T106 x6 x8).f1) ((rd_T106 x6 x8).f2) ((rd_T106 x6 x8).f3) ((rd_T106 x6 x8).f4) ((rd_T106 x6 x8).f5) ((rd_T106 x6 x8).f6)).bind fun t138 => (if t138 = true then (doc_Doc_Right.j1 k x0 x3 x8 x6 x7 x8 false ((rd_T106 x6 x8).f0.f0) ((rd_T106 x6 x8).f0.f1) ((rd_T106 x6 x8).f0.f2) ((rd_T106 x6 x8).f1) ((rd_T106 x6 x8).f2) ((rd_T106 x6 x8).f3) ((rd_T106 x6 x8).f4) ((rd_T106 x6 x8).f5) ((rd_T106 x6 x8).f6)) else ((doc_Part_isConflict.f ((rd_T106 x6 x8).f0.f0) ((rd_T106 x6 x8).f0.f1) ((rd_T106 x6 x8).f0.f2) ((rd_T106 x6 x8).f1) ((rd_T106 x6 x8).f2) ((rd_T106 x6 x8).f3) ((rd_T106 x6 x8).f4) ((rd_T106 x6 x8).f5) ((rd_T106 x6 x8).f6)).bind fun t139 => (doc_Doc_Right.j1 k x0 x3 x8 x6 x7 x8 (!t139) ((rd_T106 x6 x8).f0.f0) ((rd_T106 x6 x8).f0.f1) ((rd_T106 x6 x8).f0.f2) ((rd_T106 x6 x8).f1) ((rd_T106 x6 x8).f2) ((rd_T106 x6 x8).f3) ((rd_T106 x6 x8).f4) ((rd_T106 x6 x8).f5) ((rd_T106 x6 x8).f6))))) else (none)) else (none)) else (some true)
def doc_Doc_Right.j1 : Nat → List (S106) → Bool → Int → List (S106) → Int → Int → Bool → ByteArray → ByteArray → ByteArray → Bool → ByteArray → ByteArray → ByteArray → ByteArray → Bool → Option (Bool)
  | 0, _, _, _, _, _, _, _, _, _, _, _, _, _, _, _, _ => none
  | k + 1, x0, x3, x4, x6, x7, x8, x13, x138000, x138001, x138002, x138003, x138004, x138005, x138006, x138007, x138008 => if x13 = true then (doc_Doc_Right.j2 k x0 x3 x4 x6 x7 x8 x13 x138000 x138001 x138002 x138003 x138004 x138005 x138006 x138007 x138008) else ((doc_Labels_Plain.f x138000 x138001 x138002).bind fun t140 => (doc_Doc_Right.j2 k x0 x3 x4 x6 x7 x8 (!t140) x138000 x138001 x138002 x138003 x138004 x138005 x138006 x138007 x138008))
def doc_Doc_Right.j2 : Nat → List (S106) → Bool → Int → List (S106) → Int → Int → Bool → ByteArray → ByteArray → ByteArray → Bool → ByteArray → ByteArray → ByteArray → ByteArray → Bool → Option (Bool)
  | 0, _, _, _, _, _, _, _, _, _, _, _, _, _, _, _, _ => none
  | k + 1, x0, x3, x4, x6, x7, x8, x13, x138000, x138001, x138002, x138003, x138004, x138005, x138006, x138007, x138008 => if x13 = true then (some false) else ((doc_Part_isText.f x138000 x138001 x138002 x138003 x138004 x138005 x138006 x138007 x138008).bind fun t141 => (if t141 = true then (if x3 = true then (some false) else (if x138004.toList = ([] : List UInt8) then (some false) else (if x4 < (wrap64 ((x0.length : Int) - 1)) then ((strings_HasSuffix.f x138004 (⟨#[10]⟩ : ByteArray)).bind fun t142 => (if t142 = true then ((doc_Part_isText.f x138000 x138001 x138002 x138003 x138004 x138005 x138006 x138007 x138008).bind fun t143 => (doc_Doc_Right.l0 k x0 t143 x6 x7 (wrap64 (x8 + 1)))) else (some false))) else ((doc_Part_isText.f x138000 x138001 x138002 x138003 x138004 x138005 x138006 x138007 x138008).bind fun t144 => (doc_Doc_Right.l0 k x0 t144 x6 x7 (wrap64 (x8 + 1))))))) else ((doc_Part_isText.f x138000 x138001 x138002 x138003 x138004 x138005 x138006 x138007 x138008).bind fun t145 => (doc_Doc_Right.l0 k x0 t145 x6 x7 (wrap64 (x8 + 1))))))
end
def doc_Doc_Right.f (k : Nat) (l0 : List (S106)) : Option (Bool) := doc_Doc_Right.l0 k l0 false l0 (l0.length : Int) 0
theorem doc_Doc_Right.mono_l : ∀ k, (∀ y0 y1 y2 y3 y4, LeO (doc_Doc_Right.l0 k y0 y1 y2 y3 y4) (doc_Doc_Right.l0 (k + 1) y0 y1 y2 y3 y4)) ∧ (∀ y0 y1 y2 y3 y4 y5 y6 y7 y8 y9 y10 y11 y12 y13 y14 y15, LeO (doc_Doc_Right.j1 k y0 y1 y2 y3 y4 y5 y6 y7 y8 y9 y10 y11 y12 y13 y14 y15) (doc_Doc_Right.j1 (k + 1) y0 y1 y2 y3 y4 y5 y6 y7 y8 y9 y10 y11 y12 y13 y14 y15)) ∧ (∀ y0 y1 y2 y3 y4 y5 y6 y7 y8 y9 y10 y11 y12 y13 y14 y15, LeO (doc_Doc_Right.j2 k y0 y1 y2 y3 y4 y5 y6 y7 y8 y9 y10 y11 y12 y13 y14 y15) (doc_Doc_Right.j2 (k + 1) y0 y1 y2 y3 y4 y5 y6 y7 y8 y9 y10 y11 y12 y13 y14 y15))
  | 0 => ⟨fun _ _ _ _ _ r h => by simp [doc_Doc_Right.l0] at h, fun _ _ _ _ _ _ _ _ _ _ _ _ _ _ _ _ r h => by simp [doc_Doc_Right.j1] at h, fun _ _ _ _ _ _ _ _ _ _ _ _ _ _ _ _ r h => by simp [doc_Doc_Right.j2] at h⟩
  | k + 1 => by
    obtain ⟨ih0, ih1, ih2⟩ := doc_Doc_Right.mono_l k
    refine ⟨?_, ?_, ?_⟩
    · intro y0 y1 y2 y3 y4
      unfold doc_Doc_Right.l0
      repeat' first
      | (with_reducible exact ih0 _ _ _ _ _)
      | (with_reducible exact ih1 _ _ _ _ _ _ _ _ _ _ _ _ _ _ _ _)
      | (with_reducible exact ih2 _ _ _ _ _ _ _ _ _ _ _ _ _ _ _ _)
      | (with_reducible exact LeO.refl _)
      | (with_reducible exact LeO.none _)
      | (with_reducible refine LeO.ite ?_ ?_)
      | (with_reducible refine LeO.bind ?_ (fun _ => ?_))
      | exact ih0 _ _ _ _ _
      | exact ih1 _ _ _ _ _ _ _ _ _ _ _ _ _ _ _ _
      | exact ih2 _ _ _ _ _ _ _ _ _ _ _ _ _ _ _ _
      | exact LeO.none _
      | refine LeO.ite ?_ ?_
      | refine LeO.bind ?_ (fun _ => ?_)
    · intro y0 y1 y2 y3 y4 y5 y6 y7 y8 y9 y10 y11 y12 y13 y14 y15
      unfold doc_Doc_Right.j1
      repeat' first
      | (with_reducible exact ih0 _ _ _ _ _)
      | (with_reducible exact ih1 _ _ _ _ _ _ _ _ _ _ _ _ _ _ _ _)
      | (with_reducible exact ih2 _ _ _ _ _ _ _ _ _ _ _ _ _ _ _ _)
      | (with_reducible exact LeO.refl _)
      | (with_reducible exact LeO.none _)
      | (with_reducible refine LeO.ite ?_ ?_)
      | (with_reducible refine LeO.bind ?_ (fun _ => ?_))
      | exact ih0 _ _ _ _ _
      | exact ih1 _ _ _ _ _ _ _ _ _ _ _ _ _ _ _ _
      | exact ih2 _ _ _ _ _ _ _ _ _ _ _ _ _ _ _ _
      | exact LeO.none _
      | refine LeO.ite ?_ ?_
      | refine LeO.bind ?_ (fun _ => ?_)
    · intro y0 y1 y2 y3 y4 y5 y6 y7 y8 y9 y10 y11 y12 y13 y14 y15
      unfold doc_Doc_Right.j2
      repeat' first
      | (with_reducible exact ih0 _ _ _ _ _)
      | (with_reducible exact ih1 _ _ _ _ _ _ _ _ _ _ _ _ _ _ _ _)
      | (with_reducible exact ih2 _ _ _ _ _ _ _ _ _ _ _ _ _ _ _ _)
      | (with_reducible exact LeO.refl _)
      | (with_reducible exact LeO.none _)
      | (with_reducible refine LeO.ite ?_ ?_)
      | (with_reducible refine LeO.bind ?_ (fun _ => ?_))
      | exact ih0 _ _ _ _ _
      | exact ih1 _ _ _ _ _ _ _ _ _ _ _ _ _ _ _ _
      | exact ih2 _ _ _ _ _ _ _ _ _ _ _ _ _ _ _ _
      | exact LeO.none _
      | refine LeO.ite ?_ ?_
      | refine LeO.bind ?_ (fun _ => ?_)
theorem doc_Doc_Right.mono : ∀ a0 k, LeO (doc_Doc_Right.f k a0) (doc_Doc_Right.f (k + 1) a0) := by
  intro a0 k
  obtain ⟨ih0, ih1, ih2⟩ := doc_Doc_Right.mono_l k
  unfold doc_Doc_Right.f
  repeat' first
      | (with_reducible exact ih0 _ _ _ _ _)
      | (with_reducible exact ih1 _ _ _ _ _ _ _ _ _ _ _ _ _ _ _ _)
      | (with_reducible exact ih2 _ _ _ _ _ _ _ _ _ _ _ _ _ _ _ _)
      | (with_reducible exact LeO.refl _)
      | (with_reducible exact LeO.none _)
      | (with_reducible refine LeO.ite ?_ ?_)
      | (with_reducible refine LeO.bind ?_ (fun _ => ?_))
      | exact ih0 _ _ _ _ _
      | exact ih1 _ _ _ _ _ _ _ _ _ _ _ _ _ _ _ _
      | exact ih2 _ _ _ _ _ _ _ _ _ _ _ _ _ _ _ _
      | exact LeO.none _
      | refine LeO.ite ?_ ?_
      | refine LeO.bind ?_ (fun _ => ?_)
set_option maxHeartbeats 8000000 in
set_option maxRecDepth 100000 in
theorem doc_Doc_Right.calls (k : Nat) (A0 : Option Addr) (c0 : Nat) (l0 : List (S106)) (r : Bool) (w : World) (hr0 : Kd.C k106 w A0 l0.length l0) (hc0 : l0.length ≤ c0) (h : doc_Doc_Right.f k l0 = some r) :
    Calls Try.prog 72 #[.slice A0 l0.length c0] w fun e w' => e = .returned (.bool r) ∧ Below w.heap.size w w' := by
  have hu106 := Try.underlying106
  have hu84 := Try.underlying84
  have HR0 := Aside0.mk hr0
  have HC0 := Aside0.mk hc0
  clear hr0 hc0
  have HB := Aside0.mk (Below.refl w.heap.size w)
  have H : (doc_Doc_Right.l0 k l0 false l0 (l0.length : Int) 0) = some r := h
  clear h
  have H' := Aside0.mk H
  clear H
  go_enter Try.func72, Try.ntmps72
  go_wp2
  go_loopg [3, 8] k (fun kq v3 v8 w' => ∃ (x3_1 : Bool) (x8_1 : Int), v3 = .bool x3_1 ∧ v8 = .int .i64 x8_1 ∧ Aside0 (doc_Doc_Right.l0 kq l0 x3_1 l0 (l0.length : Int) x8_1 = some r) ∧ Aside0 (kq ≤ k) ∧ Aside0 (Below w.heap.size w w'))
  case atStart => exact ⟨(false), (0), (by first | rfl | (simp; done) | (simp [*]; done)), (by first | rfl | (simp; done) | (simp [*]; done)), H', ⟨Nat.le_refl _⟩, ⟨by repeat (first | (with_reducible first | exact HB.out | apply below_alloc | apply pw_below_drewN | apply below_drew1) | exact HB.out)⟩⟩
  case round =>
    clear H'
    obtain ⟨x3_1, x8_1, rfl, rfl, HA, HK1, HB⟩ := hrel
    cases gk with
    | zero => exact absurd HA.out (by simp [doc_Doc_Right.l0])
    | succ k1 =>
      have H := HA.out
      clear HA
      simp only [doc_Doc_Right.l0] at H
      by_cases c2 : x8_1 < (l0.length : Int)
      · rw [if_pos c2] at H
        have c2b0 : decide (x8_1 < (l0.length : Int)) = true := decide_eq_true c2
        clear c2
        by_cases c3 : 0 ≤ x8_1
        · rw [if_pos c3] at H
          have c3b0 : decide (0 ≤ x8_1) = true := decide_eq_true c3
          clear c3
          by_cases c4 : x8_1 < (l0.length : Int)
          · rw [if_pos c4] at H
            have c4b0 : decide (x8_1 < (l0.length : Int)) = true := decide_eq_true c4
            clear c4
            have HC5 := Aside0.mk H
            clear H
            have p136 : 0 ≤ (x8_1 : Int) := of_decide_eq_true (by first | (with_reducible assumption) | assumption)
            have q136 : x8_1 < (l0.length : Int) := of_decide_eq_true (by first | (with_reducible assumption) | assumption)
            obtain ⟨ad136, e136, hx136_0, hx136_1, hx136_2, hx136_3, hx136_4, hx136_5, hx136_6, hx136_7, hx136_8⟩ := at_T106 HR0.out x8_1 p136 q136
            cases e136
            replace hx136_0 := (HB.out.cell (World.block_lt_of_cell? w _ hx136_0)).trans hx136_0
            replace hx136_1 := (HB.out.cell (World.block_lt_of_cell? w _ hx136_1)).trans hx136_1
            replace hx136_2 := (HB.out.cell (World.block_lt_of_cell? w _ hx136_2)).trans hx136_2
            replace hx136_3 := (HB.out.cell (World.block_lt_of_cell? w _ hx136_3)).trans hx136_3
            replace hx136_4 := (HB.out.cell (World.block_lt_of_cell? w _ hx136_4)).trans hx136_4
            replace hx136_5 := (HB.out.cell (World.block_lt_of_cell? w _ hx136_5)).trans hx136_5
            replace hx136_6 := (HB.out.cell (World.block_lt_of_cell? w _ hx136_6)).trans hx136_6
            replace hx136_7 := (HB.out.cell (World.block_lt_of_cell? w _ hx136_7)).trans hx136_7
            replace hx136_8 := (HB.out.cell (World.block_lt_of_cell? w _ hx136_8)).trans hx136_8
            replace p136 := eq_true p136
            replace q136 := eq_true q136
            go_upto_region 5 with (first | ((with_reducible refine gate_dst (N := 5) rfl ?_); (try (refine gate_guard (by rfl) ?_; dsimp only)); refine box_event ?hg (N := 5) ?hd (cs := #[.string (⟨#[]⟩ : ByteArray), .string (⟨#[]⟩ : ByteArray), .string (⟨#[]⟩ : ByteArray), .bool false, .string (⟨#[]⟩ : ByteArray), .string (⟨#[]⟩ : ByteArray), .string (⟨#[]⟩ : ByteArray), .string (⟨#[]⟩ : ByteArray), .bool false]) (t := 106) ?hr ?_; (case hd => rfl); (case hg => rfl); (case hr => first | (go_simp; done) | (go_simp; rfl)); intro gb137 hg w6 hbox hb; have n0_ := Aside0.mk (below_step (by repeat (first | (with_reducible first | exact HB.out | apply below_alloc | apply pw_below_drewN | apply below_drew1) | exact HB.out)) hb); have n1_ := Aside0.mk (hbox); have n2_ := Aside0.mk ((by rw [hg]; exact (below_size (by repeat (first | (with_reducible first | exact HB.out | apply below_alloc | apply pw_below_drewN | apply below_drew1) | exact HB.out))) : w.heap.size ≤ gb137)); have n3_ := Aside0.mk ((by rw [hg]; exact (below_size (by repeat (first | (with_reducible first | exact HB.out | apply below_alloc | apply pw_below_drewN | apply below_drew1) | exact HB.out))) : w.heap.size ≤ gb137)); clear HB; have HB := n0_; have BK137 := n1_; have GW137 := n2_; have GE137 := n3_; clear n0_ n1_ n2_ n3_; clear hb hbox hg; have hcz7_0 : w6.cell? ⟨gb137, 0, none⟩ = some (.string (⟨#[]⟩ : ByteArray)) := (blk_cell BK137.out 0).trans rfl; have hcz7_1 : w6.cell? ⟨gb137, 1, none⟩ = some (.string (⟨#[]⟩ : ByteArray)) := (blk_cell BK137.out 1).trans rfl; have hcz7_2 : w6.cell? ⟨gb137, 2, none⟩ = some (.string (⟨#[]⟩ : ByteArray)) := (blk_cell BK137.out 2).trans rfl; have hcz7_3 : w6.cell? ⟨gb137, 3, none⟩ = some (.bool false) := (blk_cell BK137.out 3).trans rfl; have hcz7_4 : w6.cell? ⟨gb137, 4, none⟩ = some (.string (⟨#[]⟩ : ByteArray)) := (blk_cell BK137.out 4).trans rfl; have hcz7_5 : w6.cell? ⟨gb137, 5, none⟩ = some (.string (⟨#[]⟩ : ByteArray)) := (blk_cell BK137.out 5).trans rfl; have hcz7_6 : w6.cell? ⟨gb137, 6, none⟩ = some (.string (⟨#[]⟩ : ByteArray)) := (blk_cell BK137.out 6).trans rfl; have hcz7_7 : w6.cell? ⟨gb137, 7, none⟩ = some (.string (⟨#[]⟩ : ByteArray)) := (blk_cell BK137.out 7).trans rfl; have hcz7_8 : w6.cell? ⟨gb137, 8, none⟩ = some (.bool false) := (blk_cell BK137.out 8).trans rfl; have hfz7_0 := blk_frozen BK137.out 0; have hfz7_1 := blk_frozen BK137.out 1; have hfz7_2 := blk_frozen BK137.out 2; have hfz7_3 := blk_frozen BK137.out 3; have hfz7_4 := blk_frozen BK137.out 4; have hfz7_5 := blk_frozen BK137.out 5; have hfz7_6 := blk_frozen BK137.out 6; have hfz7_7 := blk_frozen BK137.out 7; have hfz7_8 := blk_frozen BK137.out 8))
            (try simp only [Act.put, List.setIfInBounds_toArray, List.set_cons_zero, List.set_cons_succ])
            go_cut [13] (fun v13 wc => ∃ (kq : Nat) (x13_4 : Bool), v13 = .bool x13_4 ∧ Aside0 (doc_Doc_Right.j1 kq l0 x3_1 x8_1 l0 (l0.length : Int) x8_1 x13_4 ((rd_T106 l0 x8_1).f0.f0) ((rd_T106 l0 x8_1).f0.f1) ((rd_T106 l0 x8_1).f0.f2) ((rd_T106 l0 x8_1).f1) ((rd_T106 l0 x8_1).f2) ((rd_T106 l0 x8_1).f3) ((rd_T106 l0 x8_1).f4) ((rd_T106 l0 x8_1).f5) ((rd_T106 l0 x8_1).f6) = some r) ∧ Aside0 (kq ≤ k1) ∧ Aside0 (wc.heap[gb137]? = some (.cells #[.string ((rd_T106 l0 x8_1).f0.f0), .string ((rd_T106 l0 x8_1).f0.f1), .string ((rd_T106 l0 x8_1).f0.f2), .bool ((rd_T106 l0 x8_1).f1), .string ((rd_T106 l0 x8_1).f2), .string ((rd_T106 l0 x8_1).f3), .string ((rd_T106 l0 x8_1).f4), .string ((rd_T106 l0 x8_1).f5), .bool ((rd_T106 l0 x8_1).f6)] 106 (0, 0))) ∧ Aside0 (Below w.heap.size w wc))
            case first =>
              have H := HC5.out
              clear HC5
              replace H := Option.bind_eq_some_iff.mp H
              obtain ⟨t138, A80, H⟩ := H
              replace H : (if t138 = true then (doc_Doc_Right.j1 k1 l0 x3_1 x8_1 l0 (l0.length : Int) x8_1 false ((rd_T106 l0 x8_1).f0.f0) ((rd_T106 l0 x8_1).f0.f1) ((rd_T106 l0 x8_1).f0.f2) ((rd_T106 l0 x8_1).f1) ((rd_T106 l0 x8_1).f2) ((rd_T106 l0 x8_1).f3) ((rd_T106 l0 x8_1).f4) ((rd_T106 l0 x8_1).f5) ((rd_T106 l0 x8_1).f6)) else ((doc_Part_isConflict.f ((rd_T106 l0 x8_1).f0.f0) ((rd_T106 l0 x8_1).f0.f1) ((rd_T106 l0 x8_1).f0.f2) ((rd_T106 l0 x8_1).f1) ((rd_T106 l0 x8_1).f2) ((rd_T106 l0 x8_1).f3) ((rd_T106 l0 x8_1).f4) ((rd_T106 l0 x8_1).f5) ((rd_T106 l0 x8_1).f6)).bind fun t139 => (doc_Doc_Right.j1 k1 l0 x3_1 x8_1 l0 (l0.length : Int) x8_1 (!t139) ((rd_T106 l0 x8_1).f0.f0) ((rd_T106 l0 x8_1).f0.f1) ((rd_T106 l0 x8_1).f0.f2) ((rd_T106 l0 x8_1).f1) ((rd_T106 l0 x8_1).f2) ((rd_T106 l0 x8_1).f3) ((rd_T106 l0 x8_1).f4) ((rd_T106 l0 x8_1).f5) ((rd_T106 l0 x8_1).f6)))) = some r := H
              have A8 := Aside0.mk A80
              clear A80
              by_cases c9 : t138 = true
              · subst c9
                have H1 : (doc_Doc_Right.j1 k1 l0 x3_1 x8_1 l0 (l0.length : Int) x8_1 false ((rd_T106 l0 x8_1).f0.f0) ((rd_T106 l0 x8_1).f0.f1) ((rd_T106 l0 x8_1).f0.f2) ((rd_T106 l0 x8_1).f1) ((rd_T106 l0 x8_1).f2) ((rd_T106 l0 x8_1).f3) ((rd_T106 l0 x8_1).f4) ((rd_T106 l0 x8_1).f5) ((rd_T106 l0 x8_1).f6)) = some r := by rw [if_pos rfl] at H; exact H
                clear H
                have H := H1
                clear H1
                have H' := Aside0.mk H
                clear H
                have hcz10_0 : w6.cell? ⟨gb137, 0, none⟩ = some (.string (⟨#[]⟩ : ByteArray)) := (blk_cell BK137.out 0).trans rfl
                have hcz10_1 : w6.cell? ⟨gb137, 1, none⟩ = some (.string (⟨#[]⟩ : ByteArray)) := (blk_cell BK137.out 1).trans rfl
                have hcz10_2 : w6.cell? ⟨gb137, 2, none⟩ = some (.string (⟨#[]⟩ : ByteArray)) := (blk_cell BK137.out 2).trans rfl
                have hcz10_3 : w6.cell? ⟨gb137, 3, none⟩ = some (.bool false) := (blk_cell BK137.out 3).trans rfl
                have hcz10_4 : w6.cell? ⟨gb137, 4, none⟩ = some (.string (⟨#[]⟩ : ByteArray)) := (blk_cell BK137.out 4).trans rfl
                have hcz10_5 : w6.cell? ⟨gb137, 5, none⟩ = some (.string (⟨#[]⟩ : ByteArray)) := (blk_cell BK137.out 5).trans rfl
                have hcz10_6 : w6.cell? ⟨gb137, 6, none⟩ = some (.string (⟨#[]⟩ : ByteArray)) := (blk_cell BK137.out 6).trans rfl
                have hcz10_7 : w6.cell? ⟨gb137, 7, none⟩ = some (.string (⟨#[]⟩ : ByteArray)) := (blk_cell BK137.out 7).trans rfl
                have hcz10_8 : w6.cell? ⟨gb137, 8, none⟩ = some (.bool false) := (blk_cell BK137.out 8).trans rfl
                have hfz10_0 := blk_frozen BK137.out 0
                have hfz10_1 := blk_frozen BK137.out 1
                have hfz10_2 := blk_frozen BK137.out 2
                have hfz10_3 := blk_frozen BK137.out 3
                have hfz10_4 := blk_frozen BK137.out 4
                have hfz10_5 := blk_frozen BK137.out 5
                have hfz10_6 := blk_frozen BK137.out 6
                have hfz10_7 := blk_frozen BK137.out 7
                have hfz10_8 := blk_frozen BK137.out 8
                go_wp2_with (first | ((with_reducible refine gate_callee (f := 75) rfl ?_); refine goesL_ (some 15) rfl rfl Try.func75 (by kernel_rfl) rfl #[.agg #[.string ((rd_T106 l0 x8_1).f0.f0), .string ((rd_T106 l0 x8_1).f0.f1), .string ((rd_T106 l0 x8_1).f0.f2), .bool ((rd_T106 l0 x8_1).f1), .string ((rd_T106 l0 x8_1).f2), .string ((rd_T106 l0 x8_1).f3), .string ((rd_T106 l0 x8_1).f4), .string ((rd_T106 l0 x8_1).f5), .bool ((rd_T106 l0 x8_1).f6)]] rfl (by (try simp only [List.map_toArray, List.map_cons, List.map_nil]); first | done | rfl | (simp only [List.length_drop, List.length_take]; rfl)) ?_; (with_reducible refine (doc_Part_isText.calls ((rd_T106 l0 x8_1).f0.f0) ((rd_T106 l0 x8_1).f0.f1) ((rd_T106 l0 x8_1).f0.f2) ((rd_T106 l0 x8_1).f1) ((rd_T106 l0 x8_1).f2) ((rd_T106 l0 x8_1).f3) ((rd_T106 l0 x8_1).f4) ((rd_T106 l0 x8_1).f5) ((rd_T106 l0 x8_1).f6) true _ A8.out).mono ?_); rintro e w11 ⟨rfl, hb⟩; refine ⟨_, rfl, ?_⟩; have n0_ := Aside0.mk (blk_below (g := gb137) (o := .cells #[.string ((rd_T106 l0 x8_1).f0.f0), .string ((rd_T106 l0 x8_1).f0.f1), .string ((rd_T106 l0 x8_1).f0.f2), .bool ((rd_T106 l0 x8_1).f1), .string ((rd_T106 l0 x8_1).f2), .string ((rd_T106 l0 x8_1).f3), .string ((rd_T106 l0 x8_1).f4), .string ((rd_T106 l0 x8_1).f5), .bool ((rd_T106 l0 x8_1).f6)] 106 (0, 0)) (by (with_reducible repeat (first | refine blk_drewN ?_ _ | refine blk_drew ?_ | refine blk_alloc ?_ _)); refine blk_put (cs := #[.string ((rd_T106 l0 x8_1).f0.f0), .string ((rd_T106 l0 x8_1).f0.f1), .string ((rd_T106 l0 x8_1).f0.f2), .bool ((rd_T106 l0 x8_1).f1), .string ((rd_T106 l0 x8_1).f2), .string ((rd_T106 l0 x8_1).f3), .string ((rd_T106 l0 x8_1).f4), .string ((rd_T106 l0 x8_1).f5), .bool false]) ?_ 8 _ rfl; (with_reducible repeat (first | refine blk_drewN ?_ _ | refine blk_drew ?_ | refine blk_alloc ?_ _)); refine blk_put (cs := #[.string ((rd_T106 l0 x8_1).f0.f0), .string ((rd_T106 l0 x8_1).f0.f1), .string ((rd_T106 l0 x8_1).f0.f2), .bool ((rd_T106 l0 x8_1).f1), .string ((rd_T106 l0 x8_1).f2), .string ((rd_T106 l0 x8_1).f3), .string ((rd_T106 l0 x8_1).f4), .string (⟨#[]⟩ : ByteArray), .bool false]) ?_ 7 _ rfl; (with_reducible repeat (first | refine blk_drewN ?_ _ | refine blk_drew ?_ | refine blk_alloc ?_ _)); refine blk_put (cs := #[.string ((rd_T106 l0 x8_1).f0.f0), .string ((rd_T106 l0 x8_1).f0.f1), .string ((rd_T106 l0 x8_1).f0.f2), .bool ((rd_T106 l0 x8_1).f1), .string ((rd_T106 l0 x8_1).f2), .string ((rd_T106 l0 x8_1).f3), .string (⟨#[]⟩ : ByteArray), .string (⟨#[]⟩ : ByteArray), .bool false]) ?_ 6 _ rfl; (with_reducible repeat (first | refine blk_drewN ?_ _ | refine blk_drew ?_ | refine blk_alloc ?_ _)); refine blk_put (cs := #[.string ((rd_T106 l0 x8_1).f0.f0), .string ((rd_T106 l0 x8_1).f0.f1), .string ((rd_T106 l0 x8_1).f0.f2), .bool ((rd_T106 l0 x8_1).f1), .string ((rd_T106 l0 x8_1).f2), .string (⟨#[]⟩ : ByteArray), .string (⟨#[]⟩ : ByteArray), .string (⟨#[]⟩ : ByteArray), .bool false]) ?_ 5 _ rfl; (with_reducible repeat (first | refine blk_drewN ?_ _ | refine blk_drew ?_ | refine blk_alloc ?_ _)); refine blk_put (cs := #[.string ((rd_T106 l0 x8_1).f0.f0), .string ((rd_T106 l0 x8_1).f0.f1), .string ((rd_T106 l0 x8_1).f0.f2), .bool ((rd_T106 l0 x8_1).f1), .string (⟨#[]⟩ : ByteArray), .string (⟨#[]⟩ : ByteArray), .string (⟨#[]⟩ : ByteArray), .string (⟨#[]⟩ : ByteArray), .bool false]) ?_ 4 _ rfl; (with_reducible repeat (first | refine blk_drewN ?_ _ | refine blk_drew ?_ | refine blk_alloc ?_ _)); refine blk_put (cs := #[.string ((rd_T106 l0 x8_1).f0.f0), .string ((rd_T106 l0 x8_1).f0.f1), .string ((rd_T106 l0 x8_1).f0.f2), .bool false, .string (⟨#[]⟩ : ByteArray), .string (⟨#[]⟩ : ByteArray), .string (⟨#[]⟩ : ByteArray), .string (⟨#[]⟩ : ByteArray), .bool false]) ?_ 3 _ rfl; (with_reducible repeat (first | refine blk_drewN ?_ _ | refine blk_drew ?_ | refine blk_alloc ?_ _)); refine blk_put (cs := #[.string ((rd_T106 l0 x8_1).f0.f0), .string ((rd_T106 l0 x8_1).f0.f1), .string (⟨#[]⟩ : ByteArray), .bool false, .string (⟨#[]⟩ : ByteArray), .string (⟨#[]⟩ : ByteArray), .string (⟨#[]⟩ : ByteArray), .string (⟨#[]⟩ : ByteArray), .bool false]) ?_ 2 _ rfl; (with_reducible repeat (first | refine blk_drewN ?_ _ | refine blk_drew ?_ | refine blk_alloc ?_ _)); refine blk_put (cs := #[.string ((rd_T106 l0 x8_1).f0.f0), .string (⟨#[]⟩ : ByteArray), .string (⟨#[]⟩ : ByteArray), .bool false, .string (⟨#[]⟩ : ByteArray), .string (⟨#[]⟩ : ByteArray), .string (⟨#[]⟩ : ByteArray), .string (⟨#[]⟩ : ByteArray), .bool false]) ?_ 1 _ rfl; (with_reducible repeat (first | refine blk_drewN ?_ _ | refine blk_drew ?_ | refine blk_alloc ?_ _)); refine blk_put (cs := #[.string (⟨#[]⟩ : ByteArray), .string (⟨#[]⟩ : ByteArray), .string (⟨#[]⟩ : ByteArray), .bool false, .string (⟨#[]⟩ : ByteArray), .string (⟨#[]⟩ : ByteArray), .string (⟨#[]⟩ : ByteArray), .string (⟨#[]⟩ : ByteArray), .bool false]) ?_ 0 _ rfl; (with_reducible repeat (first | refine blk_drewN ?_ _ | refine blk_drew ?_ | refine blk_alloc ?_ _)); exact BK137.out) hb); have n1_ := Aside0.mk (below_step (by repeat (first | (with_reducible first | exact HB.out | apply below_alloc | apply pw_below_drewN | apply below_drew1 | refine below_set ?_ GE137.out) | exact HB.out)) hb); clear BK137; clear HB; have BK137 := n0_; have HB := n1_; clear n0_ n1_; (try clear hb); (try clear hb2); (try clear hk); (try clear hi)))
                go_meet
                case rel => exact ⟨_, (false), (by first | rfl | (simp; done) | (simp [*]; done)), H', ⟨by have := HK1.out; first | omega | exact Nat.le_refl _⟩, ⟨by (with_reducible repeat (first | refine blk_drewN ?_ _ | refine blk_drew ?_ | refine blk_alloc ?_ _)); exact BK137.out⟩, ⟨by repeat (first | (with_reducible first | exact HB.out | apply below_alloc | apply pw_below_drewN | apply below_drew1 | refine below_set ?_ GE137.out) | exact HB.out)⟩⟩
              · replace c9 := Bool.eq_false_iff.mpr c9
                subst c9
                have H1 : ((doc_Part_isConflict.f ((rd_T106 l0 x8_1).f0.f0) ((rd_T106 l0 x8_1).f0.f1) ((rd_T106 l0 x8_1).f0.f2) ((rd_T106 l0 x8_1).f1) ((rd_T106 l0 x8_1).f2) ((rd_T106 l0 x8_1).f3) ((rd_T106 l0 x8_1).f4) ((rd_T106 l0 x8_1).f5) ((rd_T106 l0 x8_1).f6)).bind fun t139 => (doc_Doc_Right.j1 k1 l0 x3_1 x8_1 l0 (l0.length : Int) x8_1 (!t139) ((rd_T106 l0 x8_1).f0.f0) ((rd_T106 l0 x8_1).f0.f1) ((rd_T106 l0 x8_1).f0.f2) ((rd_T106 l0 x8_1).f1) ((rd_T106 l0 x8_1).f2) ((rd_T106 l0 x8_1).f3) ((rd_T106 l0 x8_1).f4) ((rd_T106 l0 x8_1).f5) ((rd_T106 l0 x8_1).f6))) = some r := by rw [if_neg (show ¬ (false = true) by decide)] at H; exact H
                clear H
                have H := H1
                clear H1
                replace H := Option.bind_eq_some_iff.mp H
                obtain ⟨t139, A120, H⟩ := H
                replace H : (doc_Doc_Right.j1 k1 l0 x3_1 x8_1 l0 (l0.length : Int) x8_1 (!t139) ((rd_T106 l0 x8_1).f0.f0) ((rd_T106 l0 x8_1).f0.f1) ((rd_T106 l0 x8_1).f0.f2) ((rd_T106 l0 x8_1).f1) ((rd_T106 l0 x8_1).f2) ((rd_T106 l0 x8_1).f3) ((rd_T106 l0 x8_1).f4) ((rd_T106 l0 x8_1).f5) ((rd_T106 l0 x8_1).f6)) = some r := H
                have A12 := Aside0.mk A120
                clear A120
                have H' := Aside0.mk H
                clear H
                have hcz13_0 : w6.cell? ⟨gb137, 0, none⟩ = some (.string (⟨#[]⟩ : ByteArray)) := (blk_cell BK137.out 0).trans rfl
                have hcz13_1 : w6.cell? ⟨gb137, 1, none⟩ = some (.string (⟨#[]⟩ : ByteArray)) := (blk_cell BK137.out 1).trans rfl
                have hcz13_2 : w6.cell? ⟨gb137, 2, none⟩ = some (.string (⟨#[]⟩ : ByteArray)) := (blk_cell BK137.out 2).trans rfl
                have hcz13_3 : w6.cell? ⟨gb137, 3, none⟩ = some (.bool false) := (blk_cell BK137.out 3).trans rfl
                have hcz13_4 : w6.cell? ⟨gb137, 4, none⟩ = some (.string (⟨#[]⟩ : ByteArray)) := (blk_cell BK137.out 4).trans rfl
                have hcz13_5 : w6.cell? ⟨gb137, 5, none⟩ = some (.string (⟨#[]⟩ : ByteArray)) := (blk_cell BK137.out 5).trans rfl
                have hcz13_6 : w6.cell? ⟨gb137, 6, none⟩ = some (.string (⟨#[]⟩ : ByteArray)) := (blk_cell BK137.out 6).trans rfl
                have hcz13_7 : w6.cell? ⟨gb137, 7, none⟩ = some (.string (⟨#[]⟩ : ByteArray)) := (blk_cell BK137.out 7).trans rfl
                have hcz13_8 : w6.cell? ⟨gb137, 8, none⟩ = some (.bool false) := (blk_cell BK137.out 8).trans rfl
                have hfz13_0 := blk_frozen BK137.out 0
                have hfz13_1 := blk_frozen BK137.out 1
                have hfz13_2 := blk_frozen BK137.out 2
                have hfz13_3 := blk_frozen BK137.out 3
                have hfz13_4 := blk_frozen BK137.out 4
                have hfz13_5 := blk_frozen BK137.out 5
                have hfz13_6 := blk_frozen BK137.out 6
                have hfz13_7 := blk_frozen BK137.out 7
                have hfz13_8 := blk_frozen BK137.out 8
                go_wp2_with (first | ((with_reducible refine gate_callee (f := 75) rfl ?_); refine goesL_ (some 15) rfl rfl Try.func75 (by kernel_rfl) rfl #[.agg #[.string ((rd_T106 l0 x8_1).f0.f0), .string ((rd_T106 l0 x8_1).f0.f1), .string ((rd_T106 l0 x8_1).f0.f2), .bool ((rd_T106 l0 x8_1).f1), .string ((rd_T106 l0 x8_1).f2), .string ((rd_T106 l0 x8_1).f3), .string ((rd_T106 l0 x8_1).f4), .string ((rd_T106 l0 x8_1).f5), .bool ((rd_T106 l0 x8_1).f6)]] rfl (by (try simp only [List.map_toArray, List.map_cons, List.map_nil]); first | done | rfl | (simp only [List.length_drop, List.length_take]; rfl)) ?_; (with_reducible refine (doc_Part_isText.calls ((rd_T106 l0 x8_1).f0.f0) ((rd_T106 l0 x8_1).f0.f1) ((rd_T106 l0 x8_1).f0.f2) ((rd_T106 l0 x8_1).f1) ((rd_T106 l0 x8_1).f2) ((rd_T106 l0 x8_1).f3) ((rd_T106 l0 x8_1).f4) ((rd_T106 l0 x8_1).f5) ((rd_T106 l0 x8_1).f6) false _ A8.out).mono ?_); rintro e w14 ⟨rfl, hb⟩; refine ⟨_, rfl, ?_⟩; have n0_ := Aside0.mk (blk_below (g := gb137) (o := .cells #[.string ((rd_T106 l0 x8_1).f0.f0), .string ((rd_T106 l0 x8_1).f0.f1), .string ((rd_T106 l0 x8_1).f0.f2), .bool ((rd_T106 l0 x8_1).f1), .string ((rd_T106 l0 x8_1).f2), .string ((rd_T106 l0 x8_1).f3), .string ((rd_T106 l0 x8_1).f4), .string ((rd_T106 l0 x8_1).f5), .bool ((rd_T106 l0 x8_1).f6)] 106 (0, 0)) (by (with_reducible repeat (first | refine blk_drewN ?_ _ | refine blk_drew ?_ | refine blk_alloc ?_ _)); refine blk_put (cs := #[.string ((rd_T106 l0 x8_1).f0.f0), .string ((rd_T106 l0 x8_1).f0.f1), .string ((rd_T106 l0 x8_1).f0.f2), .bool ((rd_T106 l0 x8_1).f1), .string ((rd_T106 l0 x8_1).f2), .string ((rd_T106 l0 x8_1).f3), .string ((rd_T106 l0 x8_1).f4), .string ((rd_T106 l0 x8_1).f5), .bool false]) ?_ 8 _ rfl; (with_reducible repeat (first | refine blk_drewN ?_ _ | refine blk_drew ?_ | refine blk_alloc ?_ _)); refine blk_put (cs := #[.string ((rd_T106 l0 x8_1).f0.f0), .string ((rd_T106 l0 x8_1).f0.f1), .string ((rd_T106 l0 x8_1).f0.f2), .bool ((rd_T106 l0 x8_1).f1), .string ((rd_T106 l0 x8_1).f2), .string ((rd_T106 l0 x8_1).f3), .string ((rd_T106 l0 x8_1).f4), .string (⟨#[]⟩ : ByteArray), .bool false]) ?_ 7 _ rfl; (with_reducible repeat (first | refine blk_drewN ?_ _ | refine blk_drew ?_ | refine blk_alloc ?_ _)); refine blk_put (cs := #[.string ((rd_T106 l0 x8_1).f0.f0), .string ((rd_T106 l0 x8_1).f0.f1), .string ((rd_T106 l0 x8_1).f0.f2), .bool ((rd_T106 l0 x8_1).f1), .string ((rd_T106 l0 x8_1).f2), .string ((rd_T106 l0 x8_1).f3), .string (⟨#[]⟩ : ByteArray), .string (⟨#[]⟩ : ByteArray), .bool false]) ?_ 6 _ rfl; (with_reducible repeat (first | refine blk_drewN ?_ _ | refine blk_drew ?_ | refine blk_alloc ?_ _)); refine blk_put (cs := #[.string ((rd_T106 l0 x8_1).f0.f0), .string ((rd_T106 l0 x8_1).f0.f1), .string ((rd_T106 l0 x8_1).f0.f2), .bool ((rd_T106 l0 x8_1).f1), .string ((rd_T106 l0 x8_1).f2), .string (⟨#[]⟩ : ByteArray), .string (⟨#[]⟩ : ByteArray), .string (⟨#[]⟩ : ByteArray), .bool false]) ?_ 5 _ rfl; (with_reducible repeat (first | refine blk_drewN ?_ _ | refine blk_drew ?_ | refine blk_alloc ?_ _)); refine blk_put (cs := #[.string ((rd_T106 l0 x8_1).f0.f0), .string ((rd_T106 l0 x8_1).f0.f1), .string ((rd_T106 l0 x8_1).f0.f2), .bool ((rd_T106 l0 x8_1).f1), .string (⟨#[]⟩ : ByteArray), .string (⟨#[]⟩ : ByteArray), .string (⟨#[]⟩ : ByteArray), .string (⟨#[]⟩ : ByteArray), .bool false]) ?_ 4 _ rfl; (with_reducible repeat (first | refine blk_drewN ?_ _ | refine blk_drew ?_ | refine blk_alloc ?_ _)); refine blk_put (cs := #[.string ((rd_T106 l0 x8_1).f0.f0), .string ((rd_T106 l0 x8_1).f0.f1), .string ((rd_T106 l0 x8_1).f0.f2), .bool false, .string (⟨#[]⟩ : ByteArray), .string (⟨#[]⟩ : ByteArray), .string (⟨#[]⟩ : ByteArray), .string (⟨#[]⟩ : ByteArray), .bool false]) ?_ 3 _ rfl; (with_reducible repeat (first | refine blk_drewN ?_ _ | refine blk_drew ?_ | refine blk_alloc ?_ _)); refine blk_put (cs := #[.string ((rd_T106 l0 x8_1).f0.f0), .string ((rd_T106 l0 x8_1).f0.f1), .string (⟨#[]⟩ : ByteArray), .bool false, .string (⟨#[]⟩ : ByteArray), .string (⟨#[]⟩ : ByteArray), .string (⟨#[]⟩ : ByteArray), .string (⟨#[]⟩ : ByteArray), .bool false]) ?_ 2 _ rfl; (with_reducible repeat (first | refine blk_drewN ?_ _ | refine blk_drew ?_ | refine blk_alloc ?_ _)); refine blk_put (cs := #[.string ((rd_T106 l0 x8_1).f0.f0), .string (⟨#[]⟩ : ByteArray), .string (⟨#[]⟩ : ByteArray), .bool false, .string (⟨#[]⟩ : ByteArray), .string (⟨#[]⟩ : ByteArray), .string (⟨#[]⟩ : ByteArray), .string (⟨#[]⟩ : ByteArray), .bool false]) ?_ 1 _ rfl; (with_reducible repeat (first | refine blk_drewN ?_ _ | refine blk_drew ?_ | refine blk_alloc ?_ _)); refine blk_put (cs := #[.string (⟨#[]⟩ : ByteArray), .string (⟨#[]⟩ : ByteArray), .string (⟨#[]⟩ : ByteArray), .bool false, .string (⟨#[]⟩ : ByteArray), .string (⟨#[]⟩ : ByteArray), .string (⟨#[]⟩ : ByteArray), .string (⟨#[]⟩ : ByteArray), .bool false]) ?_ 0 _ rfl; (with_reducible repeat (first | refine blk_drewN ?_ _ | refine blk_drew ?_ | refine blk_alloc ?_ _)); exact BK137.out) hb); have n1_ := Aside0.mk (below_step (by repeat (first | (with_reducible first | exact HB.out | apply below_alloc | apply pw_below_drewN | apply below_drew1 | refine below_set ?_ GE137.out) | exact HB.out)) hb); clear BK137; clear HB; have BK137 := n0_; have HB := n1_; clear n0_ n1_; (try clear hb); (try clear hb2); (try clear hk); (try clear hi); have hcz15_0 : w14.cell? ⟨gb137, 0, none⟩ = some (.string ((rd_T106 l0 x8_1).f0.f0)) := (blk_cell BK137.out 0).trans rfl; have hcz15_1 : w14.cell? ⟨gb137, 1, none⟩ = some (.string ((rd_T106 l0 x8_1).f0.f1)) := (blk_cell BK137.out 1).trans rfl; have hcz15_2 : w14.cell? ⟨gb137, 2, none⟩ = some (.string ((rd_T106 l0 x8_1).f0.f2)) := (blk_cell BK137.out 2).trans rfl; have hcz15_3 : w14.cell? ⟨gb137, 3, none⟩ = some (.bool ((rd_T106 l0 x8_1).f1)) := (blk_cell BK137.out 3).trans rfl; have hcz15_4 : w14.cell? ⟨gb137, 4, none⟩ = some (.string ((rd_T106 l0 x8_1).f2)) := (blk_cell BK137.out 4).trans rfl; have hcz15_5 : w14.cell? ⟨gb137, 5, none⟩ = some (.string ((rd_T106 l0 x8_1).f3)) := (blk_cell BK137.out 5).trans rfl; have hcz15_6 : w14.cell? ⟨gb137, 6, none⟩ = some (.string ((rd_T106 l0 x8_1).f4)) := (blk_cell BK137.out 6).trans rfl; have hcz15_7 : w14.cell? ⟨gb137, 7, none⟩ = some (.string ((rd_T106 l0 x8_1).f5)) := (blk_cell BK137.out 7).trans rfl; have hcz15_8 : w14.cell? ⟨gb137, 8, none⟩ = some (.bool ((rd_T106 l0 x8_1).f6)) := (blk_cell BK137.out 8).trans rfl; have hfz15_0 := blk_frozen BK137.out 0; have hfz15_1 := blk_frozen BK137.out 1; have hfz15_2 := blk_frozen BK137.out 2; have hfz15_3 := blk_frozen BK137.out 3; have hfz15_4 := blk_frozen BK137.out 4; have hfz15_5 := blk_frozen BK137.out 5; have hfz15_6 := blk_frozen BK137.out 6; have hfz15_7 := blk_frozen BK137.out 7; have hfz15_8 := blk_frozen BK137.out 8) | (go_at_call 113; (with_reducible refine (doc_Part_isConflict.calls ((rd_T106 l0 x8_1).f0.f0) ((rd_T106 l0 x8_1).f0.f1) ((rd_T106 l0 x8_1).f0.f2) ((rd_T106 l0 x8_1).f1) ((rd_T106 l0 x8_1).f2) ((rd_T106 l0 x8_1).f3) ((rd_T106 l0 x8_1).f4) ((rd_T106 l0 x8_1).f5) ((rd_T106 l0 x8_1).f6) t139 _ A12.out).mono ?_); rintro e w16 ⟨rfl, hb⟩; have n0_ := Aside0.mk (blk_below (g := gb137) (o := .cells #[.string ((rd_T106 l0 x8_1).f0.f0), .string ((rd_T106 l0 x8_1).f0.f1), .string ((rd_T106 l0 x8_1).f0.f2), .bool ((rd_T106 l0 x8_1).f1), .string ((rd_T106 l0 x8_1).f2), .string ((rd_T106 l0 x8_1).f3), .string ((rd_T106 l0 x8_1).f4), .string ((rd_T106 l0 x8_1).f5), .bool ((rd_T106 l0 x8_1).f6)] 106 (0, 0)) (by (with_reducible repeat (first | refine blk_drewN ?_ _ | refine blk_drew ?_ | refine blk_alloc ?_ _)); exact BK137.out) hb); have n1_ := Aside0.mk (below_step (by repeat (first | (with_reducible first | exact HB.out | apply below_alloc | apply pw_below_drewN | apply below_drew1 | refine below_set ?_ GE137.out) | exact HB.out)) hb); clear BK137; clear HB; have BK137 := n0_; have HB := n1_; clear n0_ n1_; (try clear hb); (try clear hb2); (try clear hk); (try clear hi)))
                go_meet
                case rel => exact ⟨_, (!t139), (by first | rfl | (simp; done) | (simp [*]; done)), H', ⟨by have := HK1.out; first | omega | exact Nat.le_refl _⟩, ⟨by (with_reducible repeat (first | refine blk_drewN ?_ _ | refine blk_drew ?_ | refine blk_alloc ?_ _)); exact BK137.out⟩, ⟨by repeat (first | (with_reducible first | exact HB.out | apply below_alloc | apply pw_below_drewN | apply below_drew1 | refine below_set ?_ GE137.out) | exact HB.out)⟩⟩
            case rest =>
              clear HC5
              try clear p1
              try clear q1
              try clear hx1
              try clear c2
              try clear c2b0
              try clear p2
              try clear c3
              try clear c3b0
              try clear c4
              try clear c4b0
              try clear c7
              try clear c9
              try clear p13
              try clear q13
              try clear hx13
              try clear hcz10_0
              try clear hcz10_1
              try clear hcz10_2
              try clear hcz10_3
              try clear hcz10_4
              try clear hcz10_5
              try clear hcz10_6
              try clear hcz10_7
              try clear hcz10_8
              try clear hcz13_0
              try clear hcz13_1
              try clear hcz13_2
              try clear hcz13_3
              try clear hcz13_4
              try clear hcz13_5
              try clear hcz13_6
              try clear hcz13_7
              try clear hcz13_8
              try clear hcz15_0
              try clear hcz15_1
              try clear hcz15_2
              try clear hcz15_3
              try clear hcz15_4
              try clear hcz15_5
              try clear hcz15_6
              try clear hcz15_7
              try clear hcz15_8
              try clear hcz7_0
              try clear hcz7_1
              try clear hcz7_2
              try clear hcz7_3
              try clear hcz7_4
              try clear hcz7_5
              try clear hcz7_6
              try clear hcz7_7
              try clear hcz7_8
              try clear hfz10_0
              try clear hfz10_1
              try clear hfz10_2
              try clear hfz10_3
              try clear hfz10_4
              try clear hfz10_5
              try clear hfz10_6
              try clear hfz10_7
              try clear hfz10_8
              try clear hfz13_0
              try clear hfz13_1
              try clear hfz13_2
              try clear hfz13_3
              try clear hfz13_4
              try clear hfz13_5
              try clear hfz13_6
              try clear hfz13_7
              try clear hfz13_8
              try clear hfz15_0
              try clear hfz15_1
              try clear hfz15_2
              try clear hfz15_3
              try clear hfz15_4
              try clear hfz15_5
              try clear hfz15_6
              try clear hfz15_7
              try clear hfz15_8
              try clear hfz7_0
              try clear hfz7_1
              try clear hfz7_2
              try clear hfz7_3
              try clear hfz7_4
              try clear hfz7_5
              try clear hfz7_6
              try clear hfz7_7
              try clear hfz7_8
              try clear hx136_0
              try clear hx136_1
              try clear hx136_2
              try clear hx136_3
              try clear hx136_4
              try clear hx136_5
              try clear hx136_6
              try clear hx136_7
              try clear hx136_8
              try clear p136
              try clear q136
              obtain ⟨kq, x13_4, rfl, HA, HJ4, BK137, HB⟩ := hcut
              cases kq with
              | zero => exact absurd HA.out (by simp [doc_Doc_Right.j1])
              | succ kj4 =>
                have H := HA.out
                clear HA
                simp only [doc_Doc_Right.j1] at H
                have HC17 := Aside0.mk H
                clear H
                go_upto_if 13 with (fail)
                go_cut [13] (fun v13 wc => ∃ (kq : Nat) (x13_16 : Bool), v13 = .bool x13_16 ∧ Aside0 (doc_Doc_Right.j2 kq l0 x3_1 x8_1 l0 (l0.length : Int) x8_1 x13_16 ((rd_T106 l0 x8_1).f0.f0) ((rd_T106 l0 x8_1).f0.f1) ((rd_T106 l0 x8_1).f0.f2) ((rd_T106 l0 x8_1).f1) ((rd_T106 l0 x8_1).f2) ((rd_T106 l0 x8_1).f3) ((rd_T106 l0 x8_1).f4) ((rd_T106 l0 x8_1).f5) ((rd_T106 l0 x8_1).f6) = some r) ∧ Aside0 (kq ≤ kj4) ∧ Aside0 (wc.heap[gb137]? = some (.cells #[.string ((rd_T106 l0 x8_1).f0.f0), .string ((rd_T106 l0 x8_1).f0.f1), .string ((rd_T106 l0 x8_1).f0.f2), .bool ((rd_T106 l0 x8_1).f1), .string ((rd_T106 l0 x8_1).f2), .string ((rd_T106 l0 x8_1).f3), .string ((rd_T106 l0 x8_1).f4), .string ((rd_T106 l0 x8_1).f5), .bool ((rd_T106 l0 x8_1).f6)] 106 (0, 0))) ∧ Aside0 (Below w.heap.size w wc))
                case first =>
                  have H := HC17.out
                  clear HC17
                  by_cases c18 : x13_4 = true
                  · subst c18
                    have H1 : (doc_Doc_Right.j2 kj4 l0 x3_1 x8_1 l0 (l0.length : Int) x8_1 true ((rd_T106 l0 x8_1).f0.f0) ((rd_T106 l0 x8_1).f0.f1) ((rd_T106 l0 x8_1).f0.f2) ((rd_T106 l0 x8_1).f1) ((rd_T106 l0 x8_1).f2) ((rd_T106 l0 x8_1).f3) ((rd_T106 l0 x8_1).f4) ((rd_T106 l0 x8_1).f5) ((rd_T106 l0 x8_1).f6)) = some r := by rw [if_pos rfl] at H; exact H
                    clear H
                    have H := H1
                    clear H1
                    have H' := Aside0.mk H
                    clear H
                    go_wp2
                    go_meet
                    case rel => exact ⟨_, (true), (by first | rfl | (simp; done) | (simp [*]; done)), H', ⟨by have := HK1.out; have := HJ4.out; first | omega | exact Nat.le_refl _⟩, ⟨by (with_reducible repeat (first | refine blk_drewN ?_ _ | refine blk_drew ?_ | refine blk_alloc ?_ _)); exact BK137.out⟩, ⟨by repeat (first | (with_reducible first | exact HB.out | apply below_alloc | apply pw_below_drewN | apply below_drew1 | refine below_set ?_ GE137.out) | exact HB.out)⟩⟩
                  · replace c18 := Bool.eq_false_iff.mpr c18
                    subst c18
                    have H1 : ((doc_Labels_Plain.f ((rd_T106 l0 x8_1).f0.f0) ((rd_T106 l0 x8_1).f0.f1) ((rd_T106 l0 x8_1).f0.f2)).bind fun t140 => (doc_Doc_Right.j2 kj4 l0 x3_1 x8_1 l0 (l0.length : Int) x8_1 (!t140) ((rd_T106 l0 x8_1).f0.f0) ((rd_T106 l0 x8_1).f0.f1) ((rd_T106 l0 x8_1).f0.f2) ((rd_T106 l0 x8_1).f1) ((rd_T106 l0 x8_1).f2) ((rd_T106 l0 x8_1).f3) ((rd_T106 l0 x8_1).f4) ((rd_T106 l0 x8_1).f5) ((rd_T106 l0 x8_1).f6))) = some r := by rw [if_neg (show ¬ (false = true) by decide)] at H; exact H
                    clear H
                    have H := H1
                    clear H1
                    replace H := Option.bind_eq_some_iff.mp H
                    obtain ⟨t140, A190, H⟩ := H
                    replace H : (doc_Doc_Right.j2 kj4 l0 x3_1 x8_1 l0 (l0.length : Int) x8_1 (!t140) ((rd_T106 l0 x8_1).f0.f0) ((rd_T106 l0 x8_1).f0.f1) ((rd_T106 l0 x8_1).f0.f2) ((rd_T106 l0 x8_1).f1) ((rd_T106 l0 x8_1).f2) ((rd_T106 l0 x8_1).f3) ((rd_T106 l0 x8_1).f4) ((rd_T106 l0 x8_1).f5) ((rd_T106 l0 x8_1).f6)) = some r := H
                    have A19 := Aside0.mk A190
                    clear A190
                    have H' := Aside0.mk H
                    clear H
                    have hcz20_0 : wc.cell? ⟨gb137, 0, none⟩ = some (.string ((rd_T106 l0 x8_1).f0.f0)) := (blk_cell BK137.out 0).trans rfl
                    have hcz20_1 : wc.cell? ⟨gb137, 1, none⟩ = some (.string ((rd_T106 l0 x8_1).f0.f1)) := (blk_cell BK137.out 1).trans rfl
                    have hcz20_2 : wc.cell? ⟨gb137, 2, none⟩ = some (.string ((rd_T106 l0 x8_1).f0.f2)) := (blk_cell BK137.out 2).trans rfl
                    have hcz20_3 : wc.cell? ⟨gb137, 3, none⟩ = some (.bool ((rd_T106 l0 x8_1).f1)) := (blk_cell BK137.out 3).trans rfl
                    have hcz20_4 : wc.cell? ⟨gb137, 4, none⟩ = some (.string ((rd_T106 l0 x8_1).f2)) := (blk_cell BK137.out 4).trans rfl
                    have hcz20_5 : wc.cell? ⟨gb137, 5, none⟩ = some (.string ((rd_T106 l0 x8_1).f3)) := (blk_cell BK137.out 5).trans rfl
                    have hcz20_6 : wc.cell? ⟨gb137, 6, none⟩ = some (.string ((rd_T106 l0 x8_1).f4)) := (blk_cell BK137.out 6).trans rfl
                    have hcz20_7 : wc.cell? ⟨gb137, 7, none⟩ = some (.string ((rd_T106 l0 x8_1).f5)) := (blk_cell BK137.out 7).trans rfl
                    have hcz20_8 : wc.cell? ⟨gb137, 8, none⟩ = some (.bool ((rd_T106 l0 x8_1).f6)) := (blk_cell BK137.out 8).trans rfl
                    have hfz20_0 := blk_frozen BK137.out 0
                    have hfz20_1 := blk_frozen BK137.out 1
                    have hfz20_2 := blk_frozen BK137.out 2
                    have hfz20_3 := blk_frozen BK137.out 3
                    have hfz20_4 := blk_frozen BK137.out 4
                    have hfz20_5 := blk_frozen BK137.out 5
                    have hfz20_6 := blk_frozen BK137.out 6
                    have hfz20_7 := blk_frozen BK137.out 7
                    have hfz20_8 := blk_frozen BK137.out 8
                    go_wp2_with (first | ((with_reducible refine gate_callee (f := 114) rfl ?_); refine goesL_ (some 24) rfl rfl Try.func114 (by kernel_rfl) rfl #[.agg #[.string ((rd_T106 l0 x8_1).f0.f0), .string ((rd_T106 l0 x8_1).f0.f1), .string ((rd_T106 l0 x8_1).f0.f2)]] rfl (by (try simp only [List.map_toArray, List.map_cons, List.map_nil]); first | done | rfl | (simp only [List.length_drop, List.length_take]; rfl)) ?_; (with_reducible refine (doc_Labels_Plain.calls ((rd_T106 l0 x8_1).f0.f0) ((rd_T106 l0 x8_1).f0.f1) ((rd_T106 l0 x8_1).f0.f2) t140 _ A19.out).mono ?_); rintro e w21 ⟨rfl, hb⟩; refine ⟨_, rfl, ?_⟩; have n0_ := Aside0.mk (blk_below (g := gb137) (o := .cells #[.string ((rd_T106 l0 x8_1).f0.f0), .string ((rd_T106 l0 x8_1).f0.f1), .string ((rd_T106 l0 x8_1).f0.f2), .bool ((rd_T106 l0 x8_1).f1), .string ((rd_T106 l0 x8_1).f2), .string ((rd_T106 l0 x8_1).f3), .string ((rd_T106 l0 x8_1).f4), .string ((rd_T106 l0 x8_1).f5), .bool ((rd_T106 l0 x8_1).f6)] 106 (0, 0)) (by (with_reducible repeat (first | refine blk_drewN ?_ _ | refine blk_drew ?_ | refine blk_alloc ?_ _)); exact BK137.out) hb); have n1_ := Aside0.mk (below_step (by repeat (first | (with_reducible first | exact HB.out | apply below_alloc | apply pw_below_drewN | apply below_drew1 | refine below_set ?_ GE137.out) | exact HB.out)) hb); clear BK137; clear HB; have BK137 := n0_; have HB := n1_; clear n0_ n1_; (try clear hb); (try clear hb2); (try clear hk); (try clear hi)))
                    go_meet
                    case rel => exact ⟨_, (!t140), (by first | rfl | (simp; done) | (simp [*]; done)), H', ⟨by have := HK1.out; have := HJ4.out; first | omega | exact Nat.le_refl _⟩, ⟨by (with_reducible repeat (first | refine blk_drewN ?_ _ | refine blk_drew ?_ | refine blk_alloc ?_ _)); exact BK137.out⟩, ⟨by repeat (first | (with_reducible first | exact HB.out | apply below_alloc | apply pw_below_drewN | apply below_drew1 | refine below_set ?_ GE137.out) | exact HB.out)⟩⟩
                case rest =>
                  clear HC17
                  try clear c1
                  try clear p1
                  try clear q1
                  try clear hx1
                  try clear c2
                  try clear c2b0
                  try clear p2
                  try clear c3
                  try clear c3b0
                  try clear c4
                  try clear c4b0
                  try clear c7
                  try clear c9
                  try clear c11
                  try clear p13
                  try clear q13
                  try clear hx13
                  try clear c18
                  try clear hcz10_0
                  try clear hcz10_1
                  try clear hcz10_2
                  try clear hcz10_3
                  try clear hcz10_4
                  try clear hcz10_5
                  try clear hcz10_6
                  try clear hcz10_7
                  try clear hcz10_8
                  try clear hcz13_0
                  try clear hcz13_1
                  try clear hcz13_2
                  try clear hcz13_3
                  try clear hcz13_4
                  try clear hcz13_5
                  try clear hcz13_6
                  try clear hcz13_7
                  try clear hcz13_8
                  try clear hcz15_0
                  try clear hcz15_1
                  try clear hcz15_2
                  try clear hcz15_3
                  try clear hcz15_4
                  try clear hcz15_5
                  try clear hcz15_6
                  try clear hcz15_7
                  try clear hcz15_8
                  try clear hcz20_0
                  try clear hcz20_1
                  try clear hcz20_2
                  try clear hcz20_3
                  try clear hcz20_4
                  try clear hcz20_5
                  try clear hcz20_6
                  try clear hcz20_7
                  try clear hcz20_8
                  try clear hcz7_0
                  try clear hcz7_1
                  try clear hcz7_2
                  try clear hcz7_3
                  try clear hcz7_4
                  try clear hcz7_5
                  try clear hcz7_6
                  try clear hcz7_7
                  try clear hcz7_8
                  try clear hfz10_0
                  try clear hfz10_1
                  try clear hfz10_2
                  try clear hfz10_3
                  try clear hfz10_4
                  try clear hfz10_5
                  try clear hfz10_6
                  try clear hfz10_7
                  try clear hfz10_8
                  try clear hfz13_0
                  try clear hfz13_1
                  try clear hfz13_2
                  try clear hfz13_3
                  try clear hfz13_4
                  try clear hfz13_5
                  try clear hfz13_6
                  try clear hfz13_7
                  try clear hfz13_8
                  try clear hfz15_0
                  try clear hfz15_1
                  try clear hfz15_2
                  try clear hfz15_3
                  try clear hfz15_4
                  try clear hfz15_5
                  try clear hfz15_6
                  try clear hfz15_7
                  try clear hfz15_8
                  try clear hfz20_0
                  try clear hfz20_1
                  try clear hfz20_2
                  try clear hfz20_3
                  try clear hfz20_4
                  try clear hfz20_5
                  try clear hfz20_6
                  try clear hfz20_7
                  try clear hfz20_8
                  try clear hfz7_0
                  try clear hfz7_1
                  try clear hfz7_2
                  try clear hfz7_3
                  try clear hfz7_4
                  try clear hfz7_5
                  try clear hfz7_6
                  try clear hfz7_7
                  try clear hfz7_8
                  try clear hx136_0
                  try clear hx136_1
                  try clear hx136_2
                  try clear hx136_3
                  try clear hx136_4
                  try clear hx136_5
                  try clear hx136_6
                  try clear hx136_7
                  try clear hx136_8
                  try clear p1
                  try clear p13
                  try clear p136
                  try clear p2
                  try clear q1
                  try clear q13
                  try clear q136
                  obtain ⟨kq, x13_16, rfl, HA, HJ16, BK137, HB⟩ := hcut
                  cases kq with
                  | zero => exact absurd HA.out (by simp [doc_Doc_Right.j2])
                  | succ kj16 =>
                    have H := HA.out
                    clear HA
                    simp only [doc_Doc_Right.j2] at H
                    by_cases c22 : x13_16 = true
                    · subst c22
                      have H1 : (some false) = some r := by rw [if_pos rfl] at H; exact H
                      clear H
                      have H := H1
                      clear H1
                      obtain rfl := Option.some.inj H
                      go_wp2
                      go_ret
                      exact ⟨by first | rfl | (simp [errW_none, errW_some] <;> rfl) | (simp [*, errW_none, errW_some] <;> rfl), by repeat (first | (with_reducible first | exact HB.out | apply below_alloc | apply pw_below_drewN | apply below_drew1 | refine below_set ?_ GE137.out) | exact HB.out)⟩
                    · replace c22 := Bool.eq_false_iff.mpr c22
                      subst c22
                      have H1 : ((doc_Part_isText.f ((rd_T106 l0 x8_1).f0.f0) ((rd_T106 l0 x8_1).f0.f1) ((rd_T106 l0 x8_1).f0.f2) ((rd_T106 l0 x8_1).f1) ((rd_T106 l0 x8_1).f2) ((rd_T106 l0 x8_1).f3) ((rd_T106 l0 x8_1).f4) ((rd_T106 l0 x8_1).f5) ((rd_T106 l0 x8_1).f6)).bind fun t141 => (if t141 = true then (if x3_1 = true then (some false) else (if ((rd_T106 l0 x8_1).f2).toList = ([] : List UInt8) then (some false) else (if x8_1 < (wrap64 ((l0.length : Int) - 1)) then ((strings_HasSuffix.f ((rd_T106 l0 x8_1).f2) (⟨#[10]⟩ : ByteArray)).bind fun t142 => (if t142 = true then ((doc_Part_isText.f ((rd_T106 l0 x8_1).f0.f0) ((rd_T106 l0 x8_1).f0.f1) ((rd_T106 l0 x8_1).f0.f2) ((rd_T106 l0 x8_1).f1) ((rd_T106 l0 x8_1).f2) ((rd_T106 l0 x8_1).f3) ((rd_T106 l0 x8_1).f4) ((rd_T106 l0 x8_1).f5) ((rd_T106 l0 x8_1).f6)).bind fun t143 => (doc_Doc_Right.l0 kj16 l0 t143 l0 (l0.length : Int) (wrap64 (x8_1 + 1)))) else (some false))) else ((doc_Part_isText.f ((rd_T106 l0 x8_1).f0.f0) ((rd_T106 l0 x8_1).f0.f1) ((rd_T106 l0 x8_1).f0.f2) ((rd_T106 l0 x8_1).f1) ((rd_T106 l0 x8_1).f2) ((rd_T106 l0 x8_1).f3) ((rd_T106 l0 x8_1).f4) ((rd_T106 l0 x8_1).f5) ((rd_T106 l0 x8_1).f6)).bind fun t144 => (doc_Doc_Right.l0 kj16 l0 t144 l0 (l0.length : Int) (wrap64 (x8_1 + 1))))))) else ((doc_Part_isText.f ((rd_T106 l0 x8_1).f0.f0) ((rd_T106 l0 x8_1).f0.f1) ((rd_T106 l0 x8_1).f0.f2) ((rd_T106 l0 x8_1).f1) ((rd_T106 l0 x8_1).f2) ((rd_T106 l0 x8_1).f3) ((rd_T106 l0 x8_1).f4) ((rd_T106 l0 x8_1).f5) ((rd_T106 l0 x8_1).f6)).bind fun t145 => (doc_Doc_Right.l0 kj16 l0 t145 l0 (l0.length : Int) (wrap64 (x8_1 + 1)))))) = some r := by rw [if_neg (show ¬ (false = true) by decide)] at H; exact H
                      clear H
                      have H := H1
                      clear H1
                      replace H := Option.bind_eq_some_iff.mp H
                      obtain ⟨t141, A230, H⟩ := H
                      replace H : (if t141 = true then (if x3_1 = true then (some false) else (if ((rd_T106 l0 x8_1).f2).toList = ([] : List UInt8) then (some false) else (if x8_1 < (wrap64 ((l0.length : Int) - 1)) then ((strings_HasSuffix.f ((rd_T106 l0 x8_1).f2) (⟨#[10]⟩ : ByteArray)).bind fun t142 => (if t142 = true then ((doc_Part_isText.f ((rd_T106 l0 x8_1).f0.f0) ((rd_T106 l0 x8_1).f0.f1) ((rd_T106 l0 x8_1).f0.f2) ((rd_T106 l0 x8_1).f1) ((rd_T106 l0 x8_1).f2) ((rd_T106 l0 x8_1).f3) ((rd_T106 l0 x8_1).f4) ((rd_T106 l0 x8_1).f5) ((rd_T106 l0 x8_1).f6)).bind fun t143 => (doc_Doc_Right.l0 kj16 l0 t143 l0 (l0.length : Int) (wrap64 (x8_1 + 1)))) else (some false))) else ((doc_Part_isText.f ((rd_T106 l0 x8_1).f0.f0) ((rd_T106 l0 x8_1).f0.f1) ((rd_T106 l0 x8_1).f0.f2) ((rd_T106 l0 x8_1).f1) ((rd_T106 l0 x8_1).f2) ((rd_T106 l0 x8_1).f3) ((rd_T106 l0 x8_1).f4) ((rd_T106 l0 x8_1).f5) ((rd_T106 l0 x8_1).f6)).bind fun t144 => (doc_Doc_Right.l0 kj16 l0 t144 l0 (l0.length : Int) (wrap64 (x8_1 + 1))))))) else ((doc_Part_isText.f ((rd_T106 l0 x8_1).f0.f0) ((rd_T106 l0 x8_1).f0.f1) ((rd_T106 l0 x8_1).f0.f2) ((rd_T106 l0 x8_1).f1) ((rd_T106 l0 x8_1).f2) ((rd_T106 l0 x8_1).f3) ((rd_T106 l0 x8_1).f4) ((rd_T106 l0 x8_1).f5) ((rd_T106 l0 x8_1).f6)).bind fun t145 => (doc_Doc_Right.l0 kj16 l0 t145 l0 (l0.length : Int) (wrap64 (x8_1 + 1))))) = some r := H
                      have A23 := Aside0.mk A230
                      clear A230
                      by_cases c24 : t141 = true
                      · subst c24
                        have H1 : (if x3_1 = true then (some false) else (if ((rd_T106 l0 x8_1).f2).toList = ([] : List UInt8) then (some false) else (if x8_1 < (wrap64 ((l0.length : Int) - 1)) then ((strings_HasSuffix.f ((rd_T106 l0 x8_1).f2) (⟨#[10]⟩ : ByteArray)).bind fun t142 => (if t142 = true then ((doc_Part_isText.f ((rd_T106 l0 x8_1).f0.f0) ((rd_T106 l0 x8_1).f0.f1) ((rd_T106 l0 x8_1).f0.f2) ((rd_T106 l0 x8_1).f1) ((rd_T106 l0 x8_1).f2) ((rd_T106 l0 x8_1).f3) ((rd_T106 l0 x8_1).f4) ((rd_T106 l0 x8_1).f5) ((rd_T106 l0 x8_1).f6)).bind fun t143 => (doc_Doc_Right.l0 kj16 l0 t143 l0 (l0.length : Int) (wrap64 (x8_1 + 1)))) else (some false))) else ((doc_Part_isText.f ((rd_T106 l0 x8_1).f0.f0) ((rd_T106 l0 x8_1).f0.f1) ((rd_T106 l0 x8_1).f0.f2) ((rd_T106 l0 x8_1).f1) ((rd_T106 l0 x8_1).f2) ((rd_T106 l0 x8_1).f3) ((rd_T106 l0 x8_1).f4) ((rd_T106 l0 x8_1).f5) ((rd_T106 l0 x8_1).f6)).bind fun t144 => (doc_Doc_Right.l0 kj16 l0 t144 l0 (l0.length : Int) (wrap64 (x8_1 + 1))))))) = some r := by rw [if_pos rfl] at H; exact H
                        clear H
                        have H := H1
                        clear H1
                        by_cases c25 : x3_1 = true
                        · subst c25
                          have H1 : (some false) = some r := by rw [if_pos rfl] at H; exact H
                          clear H
                          have H := H1
                          clear H1
                          obtain rfl := Option.some.inj H
                          have hcz26_0 : wc.cell? ⟨gb137, 0, none⟩ = some (.string ((rd_T106 l0 x8_1).f0.f0)) := (blk_cell BK137.out 0).trans rfl
                          have hcz26_1 : wc.cell? ⟨gb137, 1, none⟩ = some (.string ((rd_T106 l0 x8_1).f0.f1)) := (blk_cell BK137.out 1).trans rfl
                          have hcz26_2 : wc.cell? ⟨gb137, 2, none⟩ = some (.string ((rd_T106 l0 x8_1).f0.f2)) := (blk_cell BK137.out 2).trans rfl
                          have hcz26_3 : wc.cell? ⟨gb137, 3, none⟩ = some (.bool ((rd_T106 l0 x8_1).f1)) := (blk_cell BK137.out 3).trans rfl
                          have hcz26_4 : wc.cell? ⟨gb137, 4, none⟩ = some (.string ((rd_T106 l0 x8_1).f2)) := (blk_cell BK137.out 4).trans rfl
                          have hcz26_5 : wc.cell? ⟨gb137, 5, none⟩ = some (.string ((rd_T106 l0 x8_1).f3)) := (blk_cell BK137.out 5).trans rfl
                          have hcz26_6 : wc.cell? ⟨gb137, 6, none⟩ = some (.string ((rd_T106 l0 x8_1).f4)) := (blk_cell BK137.out 6).trans rfl
                          have hcz26_7 : wc.cell? ⟨gb137, 7, none⟩ = some (.string ((rd_T106 l0 x8_1).f5)) := (blk_cell BK137.out 7).trans rfl
                          have hcz26_8 : wc.cell? ⟨gb137, 8, none⟩ = some (.bool ((rd_T106 l0 x8_1).f6)) := (blk_cell BK137.out 8).trans rfl
                          have hfz26_0 := blk_frozen BK137.out 0
                          have hfz26_1 := blk_frozen BK137.out 1
                          have hfz26_2 := blk_frozen BK137.out 2
                          have hfz26_3 := blk_frozen BK137.out 3
                          have hfz26_4 := blk_frozen BK137.out 4
                          have hfz26_5 := blk_frozen BK137.out 5
                          have hfz26_6 := blk_frozen BK137.out 6
                          have hfz26_7 := blk_frozen BK137.out 7
                          have hfz26_8 := blk_frozen BK137.out 8
                          go_wp2_with (first | ((with_reducible refine gate_callee (f := 75) rfl ?_); refine goesL_ (some 28) rfl rfl Try.func75 (by kernel_rfl) rfl #[.agg #[.string ((rd_T106 l0 x8_1).f0.f0), .string ((rd_T106 l0 x8_1).f0.f1), .string ((rd_T106 l0 x8_1).f0.f2), .bool ((rd_T106 l0 x8_1).f1), .string ((rd_T106 l0 x8_1).f2), .string ((rd_T106 l0 x8_1).f3), .string ((rd_T106 l0 x8_1).f4), .string ((rd_T106 l0 x8_1).f5), .bool ((rd_T106 l0 x8_1).f6)]] rfl (by (try simp only [List.map_toArray, List.map_cons, List.map_nil]); first | done | rfl | (simp only [List.length_drop, List.length_take]; rfl)) ?_; (with_reducible refine (doc_Part_isText.calls ((rd_T106 l0 x8_1).f0.f0) ((rd_T106 l0 x8_1).f0.f1) ((rd_T106 l0 x8_1).f0.f2) ((rd_T106 l0 x8_1).f1) ((rd_T106 l0 x8_1).f2) ((rd_T106 l0 x8_1).f3) ((rd_T106 l0 x8_1).f4) ((rd_T106 l0 x8_1).f5) ((rd_T106 l0 x8_1).f6) true _ A23.out).mono ?_); rintro e w27 ⟨rfl, hb⟩; refine ⟨_, rfl, ?_⟩; have n0_ := Aside0.mk (blk_below (g := gb137) (o := .cells #[.string ((rd_T106 l0 x8_1).f0.f0), .string ((rd_T106 l0 x8_1).f0.f1), .string ((rd_T106 l0 x8_1).f0.f2), .bool ((rd_T106 l0 x8_1).f1), .string ((rd_T106 l0 x8_1).f2), .string ((rd_T106 l0 x8_1).f3), .string ((rd_T106 l0 x8_1).f4), .string ((rd_T106 l0 x8_1).f5), .bool ((rd_T106 l0 x8_1).f6)] 106 (0, 0)) (by (with_reducible repeat (first | refine blk_drewN ?_ _ | refine blk_drew ?_ | refine blk_alloc ?_ _)); exact BK137.out) hb); have n1_ := Aside0.mk (below_step (by repeat (first | (with_reducible first | exact HB.out | apply below_alloc | apply pw_below_drewN | apply below_drew1 | refine below_set ?_ GE137.out) | exact HB.out)) hb); clear BK137; clear HB; have BK137 := n0_; have HB := n1_; clear n0_ n1_; (try clear hb); (try clear hb2); (try clear hk); (try clear hi)))
                          go_ret
                          exact ⟨by first | rfl | (simp [errW_none, errW_some] <;> rfl) | (simp [*, errW_none, errW_some] <;> rfl), by repeat (first | (with_reducible first | exact HB.out | apply below_alloc | apply pw_below_drewN | apply below_drew1 | refine below_set ?_ GE137.out) | exact HB.out)⟩
                        · replace c25 := Bool.eq_false_iff.mpr c25
                          subst c25
                          have H1 : (if ((rd_T106 l0 x8_1).f2).toList = ([] : List UInt8) then (some false) else (if x8_1 < (wrap64 ((l0.length : Int) - 1)) then ((strings_HasSuffix.f ((rd_T106 l0 x8_1).f2) (⟨#[10]⟩ : ByteArray)).bind fun t142 => (if t142 = true then ((doc_Part_isText.f ((rd_T106 l0 x8_1).f0.f0) ((rd_T106 l0 x8_1).f0.f1) ((rd_T106 l0 x8_1).f0.f2) ((rd_T106 l0 x8_1).f1) ((rd_T106 l0 x8_1).f2) ((rd_T106 l0 x8_1).f3) ((rd_T106 l0 x8_1).f4) ((rd_T106 l0 x8_1).f5) ((rd_T106 l0 x8_1).f6)).bind fun t143 => (doc_Doc_Right.l0 kj16 l0 t143 l0 (l0.length : Int) (wrap64 (x8_1 + 1)))) else (some false))) else ((doc_Part_isText.f ((rd_T106 l0 x8_1).f0.f0) ((rd_T106 l0 x8_1).f0.f1) ((rd_T106 l0 x8_1).f0.f2) ((rd_T106 l0 x8_1).f1) ((rd_T106 l0 x8_1).f2) ((rd_T106 l0 x8_1).f3) ((rd_T106 l0 x8_1).f4) ((rd_T106 l0 x8_1).f5) ((rd_T106 l0 x8_1).f6)).bind fun t144 => (doc_Doc_Right.l0 kj16 l0 t144 l0 (l0.length : Int) (wrap64 (x8_1 + 1)))))) = some r := by rw [if_neg (show ¬ (false = true) by decide)] at H; exact H
                          clear H
                          have H := H1
                          clear H1
                          by_cases c28 : ((rd_T106 l0 x8_1).f2).toList = ([] : List UInt8)
                          · rw [if_pos c28] at H
                            have c28b0 : (((rd_T106 l0 x8_1).f2).toList == ([] : List UInt8)) = true := beq_iff_eq.mpr c28
                            have c28b1 : (((rd_T106 l0 x8_1).f2).toList != ([] : List UInt8)) = false := bne_eq_false_iff_eq.mpr c28
                            clear c28
                            obtain rfl := Option.some.inj H
                            have hcz29_0 : wc.cell? ⟨gb137, 0, none⟩ = some (.string ((rd_T106 l0 x8_1).f0.f0)) := (blk_cell BK137.out 0).trans rfl
                            have hcz29_1 : wc.cell? ⟨gb137, 1, none⟩ = some (.string ((rd_T106 l0 x8_1).f0.f1)) := (blk_cell BK137.out 1).trans rfl
                            have hcz29_2 : wc.cell? ⟨gb137, 2, none⟩ = some (.string ((rd_T106 l0 x8_1).f0.f2)) := (blk_cell BK137.out 2).trans rfl
                            have hcz29_3 : wc.cell? ⟨gb137, 3, none⟩ = some (.bool ((rd_T106 l0 x8_1).f1)) := (blk_cell BK137.out 3).trans rfl
                            have hcz29_4 : wc.cell? ⟨gb137, 4, none⟩ = some (.string ((rd_T106 l0 x8_1).f2)) := (blk_cell BK137.out 4).trans rfl
                            have hcz29_5 : wc.cell? ⟨gb137, 5, none⟩ = some (.string ((rd_T106 l0 x8_1).f3)) := (blk_cell BK137.out 5).trans rfl
                            have hcz29_6 : wc.cell? ⟨gb137, 6, none⟩ = some (.string ((rd_T106 l0 x8_1).f4)) := (blk_cell BK137.out 6).trans rfl
                            have hcz29_7 : wc.cell? ⟨gb137, 7, none⟩ = some (.string ((rd_T106 l0 x8_1).f5)) := (blk_cell BK137.out 7).trans rfl
                            have hcz29_8 : wc.cell? ⟨gb137, 8, none⟩ = some (.bool ((rd_T106 l0 x8_1).f6)) := (blk_cell BK137.out 8).trans rfl
                            have hfz29_0 := blk_frozen BK137.out 0
                            have hfz29_1 := blk_frozen BK137.out 1
                            have hfz29_2 := blk_frozen BK137.out 2
                            have hfz29_3 := blk_frozen BK137.out 3
                            have hfz29_4 := blk_frozen BK137.out 4
                            have hfz29_5 := blk_frozen BK137.out 5
                            have hfz29_6 := blk_frozen BK137.out 6
                            have hfz29_7 := blk_frozen BK137.out 7
                            have hfz29_8 := blk_frozen BK137.out 8
                            go_wp2_with (first | ((with_reducible refine gate_callee (f := 75) rfl ?_); refine goesL_ (some 28) rfl rfl Try.func75 (by kernel_rfl) rfl #[.agg #[.string ((rd_T106 l0 x8_1).f0.f0), .string ((rd_T106 l0 x8_1).f0.f1), .string ((rd_T106 l0 x8_1).f0.f2), .bool ((rd_T106 l0 x8_1).f1), .string ((rd_T106 l0 x8_1).f2), .string ((rd_T106 l0 x8_1).f3), .string ((rd_T106 l0 x8_1).f4), .string ((rd_T106 l0 x8_1).f5), .bool ((rd_T106 l0 x8_1).f6)]] rfl (by (try simp only [List.map_toArray, List.map_cons, List.map_nil]); first | done | rfl | (simp only [List.length_drop, List.length_take]; rfl)) ?_; (with_reducible refine (doc_Part_isText.calls ((rd_T106 l0 x8_1).f0.f0) ((rd_T106 l0 x8_1).f0.f1) ((rd_T106 l0 x8_1).f0.f2) ((rd_T106 l0 x8_1).f1) ((rd_T106 l0 x8_1).f2) ((rd_T106 l0 x8_1).f3) ((rd_T106 l0 x8_1).f4) ((rd_T106 l0 x8_1).f5) ((rd_T106 l0 x8_1).f6) true _ A23.out).mono ?_); rintro e w30 ⟨rfl, hb⟩; refine ⟨_, rfl, ?_⟩; have n0_ := Aside0.mk (blk_below (g := gb137) (o := .cells #[.string ((rd_T106 l0 x8_1).f0.f0), .string ((rd_T106 l0 x8_1).f0.f1), .string ((rd_T106 l0 x8_1).f0.f2), .bool ((rd_T106 l0 x8_1).f1), .string ((rd_T106 l0 x8_1).f2), .string ((rd_T106 l0 x8_1).f3), .string ((rd_T106 l0 x8_1).f4), .string ((rd_T106 l0 x8_1).f5), .bool ((rd_T106 l0 x8_1).f6)] 106 (0, 0)) (by (with_reducible repeat (first | refine blk_drewN ?_ _ | refine blk_drew ?_ | refine blk_alloc ?_ _)); exact BK137.out) hb); have n1_ := Aside0.mk (below_step (by repeat (first | (with_reducible first | exact HB.out | apply below_alloc | apply pw_below_drewN | apply below_drew1 | refine below_set ?_ GE137.out) | exact HB.out)) hb); clear BK137; clear HB; have BK137 := n0_; have HB := n1_; clear n0_ n1_; (try clear hb); (try clear hb2); (try clear hk); (try clear hi); have hcz31_0 : w30.cell? ⟨gb137, 0, none⟩ = some (.string ((rd_T106 l0 x8_1).f0.f0)) := (blk_cell BK137.out 0).trans rfl; have hcz31_1 : w30.cell? ⟨gb137, 1, none⟩ = some (.string ((rd_T106 l0 x8_1).f0.f1)) := (blk_cell BK137.out 1).trans rfl; have hcz31_2 : w30.cell? ⟨gb137, 2, none⟩ = some (.string ((rd_T106 l0 x8_1).f0.f2)) := (blk_cell BK137.out 2).trans rfl; have hcz31_3 : w30.cell? ⟨gb137, 3, none⟩ = some (.bool ((rd_T106 l0 x8_1).f1)) := (blk_cell BK137.out 3).trans rfl; have hcz31_4 : w30.cell? ⟨gb137, 4, none⟩ = some (.string ((rd_T106 l0 x8_1).f2)) := (blk_cell BK137.out 4).trans rfl; have hcz31_5 : w30.cell? ⟨gb137, 5, none⟩ = some (.string ((rd_T106 l0 x8_1).f3)) := (blk_cell BK137.out 5).trans rfl; have hcz31_6 : w30.cell? ⟨gb137, 6, none⟩ = some (.string ((rd_T106 l0 x8_1).f4)) := (blk_cell BK137.out 6).trans rfl; have hcz31_7 : w30.cell? ⟨gb137, 7, none⟩ = some (.string ((rd_T106 l0 x8_1).f5)) := (blk_cell BK137.out 7).trans rfl; have hcz31_8 : w30.cell? ⟨gb137, 8, none⟩ = some (.bool ((rd_T106 l0 x8_1).f6)) := (blk_cell BK137.out 8).trans rfl; have hfz31_0 := blk_frozen BK137.out 0; have hfz31_1 := blk_frozen BK137.out 1; have hfz31_2 := blk_frozen BK137.out 2; have hfz31_3 := blk_frozen BK137.out 3; have hfz31_4 := blk_frozen BK137.out 4; have hfz31_5 := blk_frozen BK137.out 5; have hfz31_6 := blk_frozen BK137.out 6; have hfz31_7 := blk_frozen BK137.out 7; have hfz31_8 := blk_frozen BK137.out 8))
                            go_ret
                            exact ⟨by first | rfl | (simp [errW_none, errW_some] <;> rfl) | (simp [*, errW_none, errW_some] <;> rfl), by repeat (first | (with_reducible first | exact HB.out | apply below_alloc | apply pw_below_drewN | apply below_drew1 | refine below_set ?_ GE137.out) | exact HB.out)⟩
                          · rw [if_neg c28] at H
                            have c28b0 : (((rd_T106 l0 x8_1).f2).toList == ([] : List UInt8)) = false := beq_eq_false_iff_ne.mpr c28
                            have c28b1 : (((rd_T106 l0 x8_1).f2).toList != ([] : List UInt8)) = true := bne_iff_ne.mpr c28
                            by_cases c32 : x8_1 < (wrap64 ((l0.length : Int) - 1))
                            · rw [if_pos c32] at H
                              have c32b0 : decide (x8_1 < (wrap64 ((l0.length : Int) - 1))) = true := decide_eq_true c32
                              clear c32
                              replace H := Option.bind_eq_some_iff.mp H
                              obtain ⟨t142, A330, H⟩ := H
                              replace H : (if t142 = true then ((doc_Part_isText.f ((rd_T106 l0 x8_1).f0.f0) ((rd_T106 l0 x8_1).f0.f1) ((rd_T106 l0 x8_1).f0.f2) ((rd_T106 l0 x8_1).f1) ((rd_T106 l0 x8_1).f2) ((rd_T106 l0 x8_1).f3) ((rd_T106 l0 x8_1).f4) ((rd_T106 l0 x8_1).f5) ((rd_T106 l0 x8_1).f6)).bind fun t143 => (doc_Doc_Right.l0 kj16 l0 t143 l0 (l0.length : Int) (wrap64 (x8_1 + 1)))) else (some false)) = some r := H
                              have A33 := Aside0.mk A330
                              clear A330
                              by_cases c34 : t142 = true
                              · subst c34
                                have H1 : ((doc_Part_isText.f ((rd_T106 l0 x8_1).f0.f0) ((rd_T106 l0 x8_1).f0.f1) ((rd_T106 l0 x8_1).f0.f2) ((rd_T106 l0 x8_1).f1) ((rd_T106 l0 x8_1).f2) ((rd_T106 l0 x8_1).f3) ((rd_T106 l0 x8_1).f4) ((rd_T106 l0 x8_1).f5) ((rd_T106 l0 x8_1).f6)).bind fun t143 => (doc_Doc_Right.l0 kj16 l0 t143 l0 (l0.length : Int) (wrap64 (x8_1 + 1)))) = some r := by rw [if_pos rfl] at H; exact H
                                clear H
                                have H := H1
                                clear H1
                                replace H := Option.bind_eq_some_iff.mp H
                                obtain ⟨t143, A350, H⟩ := H
                                replace H : (doc_Doc_Right.l0 kj16 l0 t143 l0 (l0.length : Int) (wrap64 (x8_1 + 1))) = some r := H
                                have A35 := Aside0.mk A350
                                clear A350
                                have H' := Aside0.mk H
                                clear H
                                have hcz36_0 : wc.cell? ⟨gb137, 0, none⟩ = some (.string ((rd_T106 l0 x8_1).f0.f0)) := (blk_cell BK137.out 0).trans rfl
                                have hcz36_1 : wc.cell? ⟨gb137, 1, none⟩ = some (.string ((rd_T106 l0 x8_1).f0.f1)) := (blk_cell BK137.out 1).trans rfl
                                have hcz36_2 : wc.cell? ⟨gb137, 2, none⟩ = some (.string ((rd_T106 l0 x8_1).f0.f2)) := (blk_cell BK137.out 2).trans rfl
                                have hcz36_3 : wc.cell? ⟨gb137, 3, none⟩ = some (.bool ((rd_T106 l0 x8_1).f1)) := (blk_cell BK137.out 3).trans rfl
                                have hcz36_4 : wc.cell? ⟨gb137, 4, none⟩ = some (.string ((rd_T106 l0 x8_1).f2)) := (blk_cell BK137.out 4).trans rfl
                                have hcz36_5 : wc.cell? ⟨gb137, 5, none⟩ = some (.string ((rd_T106 l0 x8_1).f3)) := (blk_cell BK137.out 5).trans rfl
                                have hcz36_6 : wc.cell? ⟨gb137, 6, none⟩ = some (.string ((rd_T106 l0 x8_1).f4)) := (blk_cell BK137.out 6).trans rfl
                                have hcz36_7 : wc.cell? ⟨gb137, 7, none⟩ = some (.string ((rd_T106 l0 x8_1).f5)) := (blk_cell BK137.out 7).trans rfl
                                have hcz36_8 : wc.cell? ⟨gb137, 8, none⟩ = some (.bool ((rd_T106 l0 x8_1).f6)) := (blk_cell BK137.out 8).trans rfl
                                have hfz36_0 := blk_frozen BK137.out 0
                                have hfz36_1 := blk_frozen BK137.out 1
                                have hfz36_2 := blk_frozen BK137.out 2
                                have hfz36_3 := blk_frozen BK137.out 3
                                have hfz36_4 := blk_frozen BK137.out 4
                                have hfz36_5 := blk_frozen BK137.out 5
                                have hfz36_6 := blk_frozen BK137.out 6
                                have hfz36_7 := blk_frozen BK137.out 7
                                have hfz36_8 := blk_frozen BK137.out 8
                                go_wp2_with (first | ((with_reducible refine gate_callee (f := 75) rfl ?_); refine goesL_ (some 28) rfl rfl Try.func75 (by kernel_rfl) rfl #[.agg #[.string ((rd_T106 l0 x8_1).f0.f0), .string ((rd_T106 l0 x8_1).f0.f1), .string ((rd_T106 l0 x8_1).f0.f2), .bool ((rd_T106 l0 x8_1).f1), .string ((rd_T106 l0 x8_1).f2), .string ((rd_T106 l0 x8_1).f3), .string ((rd_T106 l0 x8_1).f4), .string ((rd_T106 l0 x8_1).f5), .bool ((rd_T106 l0 x8_1).f6)]] rfl (by (try simp only [List.map_toArray, List.map_cons, List.map_nil]); first | done | rfl | (simp only [List.length_drop, List.length_take]; rfl)) ?_; (with_reducible refine (doc_Part_isText.calls ((rd_T106 l0 x8_1).f0.f0) ((rd_T106 l0 x8_1).f0.f1) ((rd_T106 l0 x8_1).f0.f2) ((rd_T106 l0 x8_1).f1) ((rd_T106 l0 x8_1).f2) ((rd_T106 l0 x8_1).f3) ((rd_T106 l0 x8_1).f4) ((rd_T106 l0 x8_1).f5) ((rd_T106 l0 x8_1).f6) true _ A23.out).mono ?_); rintro e w37 ⟨rfl, hb⟩; refine ⟨_, rfl, ?_⟩; have n0_ := Aside0.mk (blk_below (g := gb137) (o := .cells #[.string ((rd_T106 l0 x8_1).f0.f0), .string ((rd_T106 l0 x8_1).f0.f1), .string ((rd_T106 l0 x8_1).f0.f2), .bool ((rd_T106 l0 x8_1).f1), .string ((rd_T106 l0 x8_1).f2), .string ((rd_T106 l0 x8_1).f3), .string ((rd_T106 l0 x8_1).f4), .string ((rd_T106 l0 x8_1).f5), .bool ((rd_T106 l0 x8_1).f6)] 106 (0, 0)) (by (with_reducible repeat (first | refine blk_drewN ?_ _ | refine blk_drew ?_ | refine blk_alloc ?_ _)); exact BK137.out) hb); have n1_ := Aside0.mk (below_step (by repeat (first | (with_reducible first | exact HB.out | apply below_alloc | apply pw_below_drewN | apply below_drew1 | refine below_set ?_ GE137.out) | exact HB.out)) hb); clear BK137; clear HB; have BK137 := n0_; have HB := n1_; clear n0_ n1_; (try clear hb); (try clear hb2); (try clear hk); (try clear hi); have hcz38_0 : w37.cell? ⟨gb137, 0, none⟩ = some (.string ((rd_T106 l0 x8_1).f0.f0)) := (blk_cell BK137.out 0).trans rfl; have hcz38_1 : w37.cell? ⟨gb137, 1, none⟩ = some (.string ((rd_T106 l0 x8_1).f0.f1)) := (blk_cell BK137.out 1).trans rfl; have hcz38_2 : w37.cell? ⟨gb137, 2, none⟩ = some (.string ((rd_T106 l0 x8_1).f0.f2)) := (blk_cell BK137.out 2).trans rfl; have hcz38_3 : w37.cell? ⟨gb137, 3, none⟩ = some (.bool ((rd_T106 l0 x8_1).f1)) := (blk_cell BK137.out 3).trans rfl; have hcz38_4 : w37.cell? ⟨gb137, 4, none⟩ = some (.string ((rd_T106 l0 x8_1).f2)) := (blk_cell BK137.out 4).trans rfl; have hcz38_5 : w37.cell? ⟨gb137, 5, none⟩ = some (.string ((rd_T106 l0 x8_1).f3)) := (blk_cell BK137.out 5).trans rfl; have hcz38_6 : w37.cell? ⟨gb137, 6, none⟩ = some (.string ((rd_T106 l0 x8_1).f4)) := (blk_cell BK137.out 6).trans rfl; have hcz38_7 : w37.cell? ⟨gb137, 7, none⟩ = some (.string ((rd_T106 l0 x8_1).f5)) := (blk_cell BK137.out 7).trans rfl; have hcz38_8 : w37.cell? ⟨gb137, 8, none⟩ = some (.bool ((rd_T106 l0 x8_1).f6)) := (blk_cell BK137.out 8).trans rfl; have hfz38_0 := blk_frozen BK137.out 0; have hfz38_1 := blk_frozen BK137.out 1; have hfz38_2 := blk_frozen BK137.out 2; have hfz38_3 := blk_frozen BK137.out 3; have hfz38_4 := blk_frozen BK137.out 4; have hfz38_5 := blk_frozen BK137.out 5; have hfz38_6 := blk_frozen BK137.out 6; have hfz38_7 := blk_frozen BK137.out 7; have hfz38_8 := blk_frozen BK137.out 8) | (go_at_call 115; (with_reducible refine (strings_HasSuffix.calls ((rd_T106 l0 x8_1).f2) (⟨#[10]⟩ : ByteArray) true _ A33.out).mono ?_); rintro e w' ⟨rfl, ⟨nd, rfl⟩⟩) | ((with_reducible refine gate_callee (f := 75) rfl ?_); refine goesL_ (some 51) rfl rfl Try.func75 (by kernel_rfl) rfl #[.agg #[.string ((rd_T106 l0 x8_1).f0.f0), .string ((rd_T106 l0 x8_1).f0.f1), .string ((rd_T106 l0 x8_1).f0.f2), .bool ((rd_T106 l0 x8_1).f1), .string ((rd_T106 l0 x8_1).f2), .string ((rd_T106 l0 x8_1).f3), .string ((rd_T106 l0 x8_1).f4), .string ((rd_T106 l0 x8_1).f5), .bool ((rd_T106 l0 x8_1).f6)]] rfl (by (try simp only [List.map_toArray, List.map_cons, List.map_nil]); first | done | rfl | (simp only [List.length_drop, List.length_take]; rfl)) ?_; (with_reducible refine (doc_Part_isText.calls ((rd_T106 l0 x8_1).f0.f0) ((rd_T106 l0 x8_1).f0.f1) ((rd_T106 l0 x8_1).f0.f2) ((rd_T106 l0 x8_1).f1) ((rd_T106 l0 x8_1).f2) ((rd_T106 l0 x8_1).f3) ((rd_T106 l0 x8_1).f4) ((rd_T106 l0 x8_1).f5) ((rd_T106 l0 x8_1).f6) t143 _ A35.out).mono ?_); rintro e w39 ⟨rfl, hb⟩; refine ⟨_, rfl, ?_⟩; have n0_ := Aside0.mk (blk_below (g := gb137) (o := .cells #[.string ((rd_T106 l0 x8_1).f0.f0), .string ((rd_T106 l0 x8_1).f0.f1), .string ((rd_T106 l0 x8_1).f0.f2), .bool ((rd_T106 l0 x8_1).f1), .string ((rd_T106 l0 x8_1).f2), .string ((rd_T106 l0 x8_1).f3), .string ((rd_T106 l0 x8_1).f4), .string ((rd_T106 l0 x8_1).f5), .bool ((rd_T106 l0 x8_1).f6)] 106 (0, 0)) (by (with_reducible repeat (first | refine blk_drewN ?_ _ | refine blk_drew ?_ | refine blk_alloc ?_ _)); exact BK137.out) hb); have n1_ := Aside0.mk (below_step (by repeat (first | (with_reducible first | exact HB.out | apply below_alloc | apply pw_below_drewN | apply below_drew1 | refine below_set ?_ GE137.out) | exact HB.out)) hb); clear BK137; clear HB; have BK137 := n0_; have HB := n1_; clear n0_ n1_; (try clear hb); (try clear hb2); (try clear hk); (try clear hi)))
                                go_roundg kj16
                                case measure => have := HK1.out; have := HJ4.out; have := HJ16.out; omega
                                case rel => exact ⟨(t143), (wrap64 (x8_1 + 1)), (by first | rfl | (simp; done) | (simp [*]; done)), (by first | rfl | (simp; done) | (simp [*]; done)), H', ⟨by have := HK1.out; have := HJ4.out; have := HJ16.out; omega⟩, ⟨by repeat (first | (with_reducible first | exact HB.out | apply below_alloc | apply pw_below_drewN | apply below_drew1 | refine below_set ?_ GE137.out) | exact HB.out)⟩⟩
                              · replace c34 := Bool.eq_false_iff.mpr c34
                                subst c34
                                have H1 : (some false) = some r := by rw [if_neg (show ¬ (false = true) by decide)] at H; exact H
                                clear H
                                have H := H1
                                clear H1
                                obtain rfl := Option.some.inj H
                                have hcz40_0 : wc.cell? ⟨gb137, 0, none⟩ = some (.string ((rd_T106 l0 x8_1).f0.f0)) := (blk_cell BK137.out 0).trans rfl
                                have hcz40_1 : wc.cell? ⟨gb137, 1, none⟩ = some (.string ((rd_T106 l0 x8_1).f0.f1)) := (blk_cell BK137.out 1).trans rfl
                                have hcz40_2 : wc.cell? ⟨gb137, 2, none⟩ = some (.string ((rd_T106 l0 x8_1).f0.f2)) := (blk_cell BK137.out 2).trans rfl
                                have hcz40_3 : wc.cell? ⟨gb137, 3, none⟩ = some (.bool ((rd_T106 l0 x8_1).f1)) := (blk_cell BK137.out 3).trans rfl
                                have hcz40_4 : wc.cell? ⟨gb137, 4, none⟩ = some (.string ((rd_T106 l0 x8_1).f2)) := (blk_cell BK137.out 4).trans rfl
                                have hcz40_5 : wc.cell? ⟨gb137, 5, none⟩ = some (.string ((rd_T106 l0 x8_1).f3)) := (blk_cell BK137.out 5).trans rfl
                                have hcz40_6 : wc.cell? ⟨gb137, 6, none⟩ = some (.string ((rd_T106 l0 x8_1).f4)) := (blk_cell BK137.out 6).trans rfl
                                have hcz40_7 : wc.cell? ⟨gb137, 7, none⟩ = some (.string ((rd_T106 l0 x8_1).f5)) := (blk_cell BK137.out 7).trans rfl
                                have hcz40_8 : wc.cell? ⟨gb137, 8, none⟩ = some (.bool ((rd_T106 l0 x8_1).f6)) := (blk_cell BK137.out 8).trans rfl
                                have hfz40_0 := blk_frozen BK137.out 0
                                have hfz40_1 := blk_frozen BK137.out 1
                                have hfz40_2 := blk_frozen BK137.out 2
                                have hfz40_3 := blk_frozen BK137.out 3
                                have hfz40_4 := blk_frozen BK137.out 4
                                have hfz40_5 := blk_frozen BK137.out 5
                                have hfz40_6 := blk_frozen BK137.out 6
                                have hfz40_7 := blk_frozen BK137.out 7
                                have hfz40_8 := blk_frozen BK137.out 8
                                go_wp2_with (first | ((with_reducible refine gate_callee (f := 75) rfl ?_); refine goesL_ (some 28) rfl rfl Try.func75 (by kernel_rfl) rfl #[.agg #[.string ((rd_T106 l0 x8_1).f0.f0), .string ((rd_T106 l0 x8_1).f0.f1), .string ((rd_T106 l0 x8_1).f0.f2), .bool ((rd_T106 l0 x8_1).f1), .string ((rd_T106 l0 x8_1).f2), .string ((rd_T106 l0 x8_1).f3), .string ((rd_T106 l0 x8_1).f4), .string ((rd_T106 l0 x8_1).f5), .bool ((rd_T106 l0 x8_1).f6)]] rfl (by (try simp only [List.map_toArray, List.map_cons, List.map_nil]); first | done | rfl | (simp only [List.length_drop, List.length_take]; rfl)) ?_; (with_reducible refine (doc_Part_isText.calls ((rd_T106 l0 x8_1).f0.f0) ((rd_T106 l0 x8_1).f0.f1) ((rd_T106 l0 x8_1).f0.f2) ((rd_T106 l0 x8_1).f1) ((rd_T106 l0 x8_1).f2) ((rd_T106 l0 x8_1).f3) ((rd_T106 l0 x8_1).f4) ((rd_T106 l0 x8_1).f5) ((rd_T106 l0 x8_1).f6) true _ A23.out).mono ?_); rintro e w41 ⟨rfl, hb⟩; refine ⟨_, rfl, ?_⟩; have n0_ := Aside0.mk (blk_below (g := gb137) (o := .cells #[.string ((rd_T106 l0 x8_1).f0.f0), .string ((rd_T106 l0 x8_1).f0.f1), .string ((rd_T106 l0 x8_1).f0.f2), .bool ((rd_T106 l0 x8_1).f1), .string ((rd_T106 l0 x8_1).f2), .string ((rd_T106 l0 x8_1).f3), .string ((rd_T106 l0 x8_1).f4), .string ((rd_T106 l0 x8_1).f5), .bool ((rd_T106 l0 x8_1).f6)] 106 (0, 0)) (by (with_reducible repeat (first | refine blk_drewN ?_ _ | refine blk_drew ?_ | refine blk_alloc ?_ _)); exact BK137.out) hb); have n1_ := Aside0.mk (below_step (by repeat (first | (with_reducible first | exact HB.out | apply below_alloc | apply pw_below_drewN | apply below_drew1 | refine below_set ?_ GE137.out) | exact HB.out)) hb); clear BK137; clear HB; have BK137 := n0_; have HB := n1_; clear n0_ n1_; (try clear hb); (try clear hb2); (try clear hk); (try clear hi); have hcz42_0 : w41.cell? ⟨gb137, 0, none⟩ = some (.string ((rd_T106 l0 x8_1).f0.f0)) := (blk_cell BK137.out 0).trans rfl; have hcz42_1 : w41.cell? ⟨gb137, 1, none⟩ = some (.string ((rd_T106 l0 x8_1).f0.f1)) := (blk_cell BK137.out 1).trans rfl; have hcz42_2 : w41.cell? ⟨gb137, 2, none⟩ = some (.string ((rd_T106 l0 x8_1).f0.f2)) := (blk_cell BK137.out 2).trans rfl; have hcz42_3 : w41.cell? ⟨gb137, 3, none⟩ = some (.bool ((rd_T106 l0 x8_1).f1)) := (blk_cell BK137.out 3).trans rfl; have hcz42_4 : w41.cell? ⟨gb137, 4, none⟩ = some (.string ((rd_T106 l0 x8_1).f2)) := (blk_cell BK137.out 4).trans rfl; have hcz42_5 : w41.cell? ⟨gb137, 5, none⟩ = some (.string ((rd_T106 l0 x8_1).f3)) := (blk_cell BK137.out 5).trans rfl; have hcz42_6 : w41.cell? ⟨gb137, 6, none⟩ = some (.string ((rd_T106 l0 x8_1).f4)) := (blk_cell BK137.out 6).trans rfl; have hcz42_7 : w41.cell? ⟨gb137, 7, none⟩ = some (.string ((rd_T106 l0 x8_1).f5)) := (blk_cell BK137.out 7).trans rfl; have hcz42_8 : w41.cell? ⟨gb137, 8, none⟩ = some (.bool ((rd_T106 l0 x8_1).f6)) := (blk_cell BK137.out 8).trans rfl; have hfz42_0 := blk_frozen BK137.out 0; have hfz42_1 := blk_frozen BK137.out 1; have hfz42_2 := blk_frozen BK137.out 2; have hfz42_3 := blk_frozen BK137.out 3; have hfz42_4 := blk_frozen BK137.out 4; have hfz42_5 := blk_frozen BK137.out 5; have hfz42_6 := blk_frozen BK137.out 6; have hfz42_7 := blk_frozen BK137.out 7; have hfz42_8 := blk_frozen BK137.out 8) | (go_at_call 115; (with_reducible refine (strings_HasSuffix.calls ((rd_T106 l0 x8_1).f2) (⟨#[10]⟩ : ByteArray) false _ A33.out).mono ?_); rintro e w' ⟨rfl, ⟨nd, rfl⟩⟩))
                                go_ret
                                exact ⟨by first | rfl | (simp [errW_none, errW_some] <;> rfl) | (simp [*, errW_none, errW_some] <;> rfl), by repeat (first | (with_reducible first | exact HB.out | apply below_alloc | apply pw_below_drewN | apply below_drew1 | refine below_set ?_ GE137.out) | exact HB.out)⟩
                            · rw [if_neg c32] at H
                              have c32b0 : decide (x8_1 < (wrap64 ((l0.length : Int) - 1))) = false := decide_eq_false c32
                              clear c32
                              replace H := Option.bind_eq_some_iff.mp H
                              obtain ⟨t144, A430, H⟩ := H
                              replace H : (doc_Doc_Right.l0 kj16 l0 t144 l0 (l0.length : Int) (wrap64 (x8_1 + 1))) = some r := H
                              have A43 := Aside0.mk A430
                              clear A430
                              have H' := Aside0.mk H
                              clear H
                              have hcz44_0 : wc.cell? ⟨gb137, 0, none⟩ = some (.string ((rd_T106 l0 x8_1).f0.f0)) := (blk_cell BK137.out 0).trans rfl
                              have hcz44_1 : wc.cell? ⟨gb137, 1, none⟩ = some (.string ((rd_T106 l0 x8_1).f0.f1)) := (blk_cell BK137.out 1).trans rfl
                              have hcz44_2 : wc.cell? ⟨gb137, 2, none⟩ = some (.string ((rd_T106 l0 x8_1).f0.f2)) := (blk_cell BK137.out 2).trans rfl
                              have hcz44_3 : wc.cell? ⟨gb137, 3, none⟩ = some (.bool ((rd_T106 l0 x8_1).f1)) := (blk_cell BK137.out 3).trans rfl
                              have hcz44_4 : wc.cell? ⟨gb137, 4, none⟩ = some (.string ((rd_T106 l0 x8_1).f2)) := (blk_cell BK137.out 4).trans rfl
                              have hcz44_5 : wc.cell? ⟨gb137, 5, none⟩ = some (.string ((rd_T106 l0 x8_1).f3)) := (blk_cell BK137.out 5).trans rfl
                              have hcz44_6 : wc.cell? ⟨gb137, 6, none⟩ = some (.string ((rd_T106 l0 x8_1).f4)) := (blk_cell BK137.out 6).trans rfl
                              have hcz44_7 : wc.cell? ⟨gb137, 7, none⟩ = some (.string ((rd_T106 l0 x8_1).f5)) := (blk_cell BK137.out 7).trans rfl
                              have hcz44_8 : wc.cell? ⟨gb137, 8, none⟩ = some (.bool ((rd_T106 l0 x8_1).f6)) := (blk_cell BK137.out 8).trans rfl
                              have hfz44_0 := blk_frozen BK137.out 0
                              have hfz44_1 := blk_frozen BK137.out 1
                              have hfz44_2 := blk_frozen BK137.out 2
                              have hfz44_3 := blk_frozen BK137.out 3
                              have hfz44_4 := blk_frozen BK137.out 4
                              have hfz44_5 := blk_frozen BK137.out 5
                              have hfz44_6 := blk_frozen BK137.out 6
                              have hfz44_7 := blk_frozen BK137.out 7
                              have hfz44_8 := blk_frozen BK137.out 8
                              go_wp2_with (first | ((with_reducible refine gate_callee (f := 75) rfl ?_); refine goesL_ (some 28) rfl rfl Try.func75 (by kernel_rfl) rfl #[.agg #[.string ((rd_T106 l0 x8_1).f0.f0), .string ((rd_T106 l0 x8_1).f0.f1), .string ((rd_T106 l0 x8_1).f0.f2), .bool ((rd_T106 l0 x8_1).f1), .string ((rd_T106 l0 x8_1).f2), .string ((rd_T106 l0 x8_1).f3), .string ((rd_T106 l0 x8_1).f4), .string ((rd_T106 l0 x8_1).f5), .bool ((rd_T106 l0 x8_1).f6)]] rfl (by (try simp only [List.map_toArray, List.map_cons, List.map_nil]); first | done | rfl | (simp only [List.length_drop, List.length_take]; rfl)) ?_; (with_reducible refine (doc_Part_isText.calls ((rd_T106 l0 x8_1).f0.f0) ((rd_T106 l0 x8_1).f0.f1) ((rd_T106 l0 x8_1).f0.f2) ((rd_T106 l0 x8_1).f1) ((rd_T106 l0 x8_1).f2) ((rd_T106 l0 x8_1).f3) ((rd_T106 l0 x8_1).f4) ((rd_T106 l0 x8_1).f5) ((rd_T106 l0 x8_1).f6) true _ A23.out).mono ?_); rintro e w45 ⟨rfl, hb⟩; refine ⟨_, rfl, ?_⟩; have n0_ := Aside0.mk (blk_below (g := gb137) (o := .cells #[.string ((rd_T106 l0 x8_1).f0.f0), .string ((rd_T106 l0 x8_1).f0.f1), .string ((rd_T106 l0 x8_1).f0.f2), .bool ((rd_T106 l0 x8_1).f1), .string ((rd_T106 l0 x8_1).f2), .string ((rd_T106 l0 x8_1).f3), .string ((rd_T106 l0 x8_1).f4), .string ((rd_T106 l0 x8_1).f5), .bool ((rd_T106 l0 x8_1).f6)] 106 (0, 0)) (by (with_reducible repeat (first | refine blk_drewN ?_ _ | refine blk_drew ?_ | refine blk_alloc ?_ _)); exact BK137.out) hb); have n1_ := Aside0.mk (below_step (by repeat (first | (with_reducible first | exact HB.out | apply below_alloc | apply pw_below_drewN | apply below_drew1 | refine below_set ?_ GE137.out) | exact HB.out)) hb); clear BK137; clear HB; have BK137 := n0_; have HB := n1_; clear n0_ n1_; (try clear hb); (try clear hb2); (try clear hk); (try clear hi); have hcz46_0 : w45.cell? ⟨gb137, 0, none⟩ = some (.string ((rd_T106 l0 x8_1).f0.f0)) := (blk_cell BK137.out 0).trans rfl; have hcz46_1 : w45.cell? ⟨gb137, 1, none⟩ = some (.string ((rd_T106 l0 x8_1).f0.f1)) := (blk_cell BK137.out 1).trans rfl; have hcz46_2 : w45.cell? ⟨gb137, 2, none⟩ = some (.string ((rd_T106 l0 x8_1).f0.f2)) := (blk_cell BK137.out 2).trans rfl; have hcz46_3 : w45.cell? ⟨gb137, 3, none⟩ = some (.bool ((rd_T106 l0 x8_1).f1)) := (blk_cell BK137.out 3).trans rfl; have hcz46_4 : w45.cell? ⟨gb137, 4, none⟩ = some (.string ((rd_T106 l0 x8_1).f2)) := (blk_cell BK137.out 4).trans rfl; have hcz46_5 : w45.cell? ⟨gb137, 5, none⟩ = some (.string ((rd_T106 l0 x8_1).f3)) := (blk_cell BK137.out 5).trans rfl; have hcz46_6 : w45.cell? ⟨gb137, 6, none⟩ = some (.string ((rd_T106 l0 x8_1).f4)) := (blk_cell BK137.out 6).trans rfl; have hcz46_7 : w45.cell? ⟨gb137, 7, none⟩ = some (.string ((rd_T106 l0 x8_1).f5)) := (blk_cell BK137.out 7).trans rfl; have hcz46_8 : w45.cell? ⟨gb137, 8, none⟩ = some (.bool ((rd_T106 l0 x8_1).f6)) := (blk_cell BK137.out 8).trans rfl; have hfz46_0 := blk_frozen BK137.out 0; have hfz46_1 := blk_frozen BK137.out 1; have hfz46_2 := blk_frozen BK137.out 2; have hfz46_3 := blk_frozen BK137.out 3; have hfz46_4 := blk_frozen BK137.out 4; have hfz46_5 := blk_frozen BK137.out 5; have hfz46_6 := blk_frozen BK137.out 6; have hfz46_7 := blk_frozen BK137.out 7; have hfz46_8 := blk_frozen BK137.out 8) | ((with_reducible refine gate_callee (f := 75) rfl ?_); refine goesL_ (some 51) rfl rfl Try.func75 (by kernel_rfl) rfl #[.agg #[.string ((rd_T106 l0 x8_1).f0.f0), .string ((rd_T106 l0 x8_1).f0.f1), .string ((rd_T106 l0 x8_1).f0.f2), .bool ((rd_T106 l0 x8_1).f1), .string ((rd_T106 l0 x8_1).f2), .string ((rd_T106 l0 x8_1).f3), .string ((rd_T106 l0 x8_1).f4), .string ((rd_T106 l0 x8_1).f5), .bool ((rd_T106 l0 x8_1).f6)]] rfl (by (try simp only [List.map_toArray, List.map_cons, List.map_nil]); first | done | rfl | (simp only [List.length_drop, List.length_take]; rfl)) ?_; (with_reducible refine (doc_Part_isText.calls ((rd_T106 l0 x8_1).f0.f0) ((rd_T106 l0 x8_1).f0.f1) ((rd_T106 l0 x8_1).f0.f2) ((rd_T106 l0 x8_1).f1) ((rd_T106 l0 x8_1).f2) ((rd_T106 l0 x8_1).f3) ((rd_T106 l0 x8_1).f4) ((rd_T106 l0 x8_1).f5) ((rd_T106 l0 x8_1).f6) t144 _ A43.out).mono ?_); rintro e w47 ⟨rfl, hb⟩; refine ⟨_, rfl, ?_⟩; have n0_ := Aside0.mk (blk_below (g := gb137) (o := .cells #[.string ((rd_T106 l0 x8_1).f0.f0), .string ((rd_T106 l0 x8_1).f0.f1), .string ((rd_T106 l0 x8_1).f0.f2), .bool ((rd_T106 l0 x8_1).f1), .string ((rd_T106 l0 x8_1).f2), .string ((rd_T106 l0 x8_1).f3), .string ((rd_T106 l0 x8_1).f4), .string ((rd_T106 l0 x8_1).f5), .bool ((rd_T106 l0 x8_1).f6)] 106 (0, 0)) (by (with_reducible repeat (first | refine blk_drewN ?_ _ | refine blk_drew ?_ | refine blk_alloc ?_ _)); exact BK137.out) hb); have n1_ := Aside0.mk (below_step (by repeat (first | (with_reducible first | exact HB.out | apply below_alloc | apply pw_below_drewN | apply below_drew1 | refine below_set ?_ GE137.out) | exact HB.out)) hb); clear BK137; clear HB; have BK137 := n0_; have HB := n1_; clear n0_ n1_; (try clear hb); (try clear hb2); (try clear hk); (try clear hi)))
                              go_roundg kj16
                              case measure => have := HK1.out; have := HJ4.out; have := HJ16.out; omega
                              case rel => exact ⟨(t144), (wrap64 (x8_1 + 1)), (by first | rfl | (simp; done) | (simp [*]; done)), (by first | rfl | (simp; done) | (simp [*]; done)), H', ⟨by have := HK1.out; have := HJ4.out; have := HJ16.out; omega⟩, ⟨by repeat (first | (with_reducible first | exact HB.out | apply below_alloc | apply pw_below_drewN | apply below_drew1 | refine below_set ?_ GE137.out) | exact HB.out)⟩⟩
                      · replace c24 := Bool.eq_false_iff.mpr c24
                        subst c24
                        have H1 : ((doc_Part_isText.f ((rd_T106 l0 x8_1).f0.f0) ((rd_T106 l0 x8_1).f0.f1) ((rd_T106 l0 x8_1).f0.f2) ((rd_T106 l0 x8_1).f1) ((rd_T106 l0 x8_1).f2) ((rd_T106 l0 x8_1).f3) ((rd_T106 l0 x8_1).f4) ((rd_T106 l0 x8_1).f5) ((rd_T106 l0 x8_1).f6)).bind fun t145 => (doc_Doc_Right.l0 kj16 l0 t145 l0 (l0.length : Int) (wrap64 (x8_1 + 1)))) = some r := by rw [if_neg (show ¬ (false = true) by decide)] at H; exact H
                        clear H
                        have H := H1
                        clear H1
                        replace H := Option.bind_eq_some_iff.mp H
                        obtain ⟨t145, A480, H⟩ := H
                        replace H : (doc_Doc_Right.l0 kj16 l0 t145 l0 (l0.length : Int) (wrap64 (x8_1 + 1))) = some r := H
                        have A48 := Aside0.mk A480
                        clear A480
                        have H' := Aside0.mk H
                        clear H
                        have hcz49_0 : wc.cell? ⟨gb137, 0, none⟩ = some (.string ((rd_T106 l0 x8_1).f0.f0)) := (blk_cell BK137.out 0).trans rfl
                        have hcz49_1 : wc.cell? ⟨gb137, 1, none⟩ = some (.string ((rd_T106 l0 x8_1).f0.f1)) := (blk_cell BK137.out 1).trans rfl
                        have hcz49_2 : wc.cell? ⟨gb137, 2, none⟩ = some (.string ((rd_T106 l0 x8_1).f0.f2)) := (blk_cell BK137.out 2).trans rfl
                        have hcz49_3 : wc.cell? ⟨gb137, 3, none⟩ = some (.bool ((rd_T106 l0 x8_1).f1)) := (blk_cell BK137.out 3).trans rfl
                        have hcz49_4 : wc.cell? ⟨gb137, 4, none⟩ = some (.string ((rd_T106 l0 x8_1).f2)) := (blk_cell BK137.out 4).trans rfl
                        have hcz49_5 : wc.cell? ⟨gb137, 5, none⟩ = some (.string ((rd_T106 l0 x8_1).f3)) := (blk_cell BK137.out 5).trans rfl
                        have hcz49_6 : wc.cell? ⟨gb137, 6, none⟩ = some (.string ((rd_T106 l0 x8_1).f4)) := (blk_cell BK137.out 6).trans rfl
                        have hcz49_7 : wc.cell? ⟨gb137, 7, none⟩ = some (.string ((rd_T106 l0 x8_1).f5)) := (blk_cell BK137.out 7).trans rfl
                        have hcz49_8 : wc.cell? ⟨gb137, 8, none⟩ = some (.bool ((rd_T106 l0 x8_1).f6)) := (blk_cell BK137.out 8).trans rfl
                        have hfz49_0 := blk_frozen BK137.out 0
                        have hfz49_1 := blk_frozen BK137.out 1
                        have hfz49_2 := blk_frozen BK137.out 2
                        have hfz49_3 := blk_frozen BK137.out 3
                        have hfz49_4 := blk_frozen BK137.out 4
                        have hfz49_5 := blk_frozen BK137.out 5
                        have hfz49_6 := blk_frozen BK137.out 6
                        have hfz49_7 := blk_frozen BK137.out 7
                        have hfz49_8 := blk_frozen BK137.out 8
                        go_wp2_with (first | ((with_reducible refine gate_callee (f := 75) rfl ?_); refine goesL_ (some 28) rfl rfl Try.func75 (by kernel_rfl) rfl #[.agg #[.string ((rd_T106 l0 x8_1).f0.f0), .string ((rd_T106 l0 x8_1).f0.f1), .string ((rd_T106 l0 x8_1).f0.f2), .bool ((rd_T106 l0 x8_1).f1), .string ((rd_T106 l0 x8_1).f2), .string ((rd_T106 l0 x8_1).f3), .string ((rd_T106 l0 x8_1).f4), .string ((rd_T106 l0 x8_1).f5), .bool ((rd_T106 l0 x8_1).f6)]] rfl (by (try simp only [List.map_toArray, List.map_cons, List.map_nil]); first | done | rfl | (simp only [List.length_drop, List.length_take]; rfl)) ?_; (with_reducible refine (doc_Part_isText.calls ((rd_T106 l0 x8_1).f0.f0) ((rd_T106 l0 x8_1).f0.f1) ((rd_T106 l0 x8_1).f0.f2) ((rd_T106 l0 x8_1).f1) ((rd_T106 l0 x8_1).f2) ((rd_T106 l0 x8_1).f3) ((rd_T106 l0 x8_1).f4) ((rd_T106 l0 x8_1).f5) ((rd_T106 l0 x8_1).f6) false _ A23.out).mono ?_); rintro e w50 ⟨rfl, hb⟩; refine ⟨_, rfl, ?_⟩; have n0_ := Aside0.mk (blk_below (g := gb137) (o := .cells #[.string ((rd_T106 l0 x8_1).f0.f0), .string ((rd_T106 l0 x8_1).f0.f1), .string ((rd_T106 l0 x8_1).f0.f2), .bool ((rd_T106 l0 x8_1).f1), .string ((rd_T106 l0 x8_1).f2), .string ((rd_T106 l0 x8_1).f3), .string ((rd_T106 l0 x8_1).f4), .string ((rd_T106 l0 x8_1).f5), .bool ((rd_T106 l0 x8_1).f6)] 106 (0, 0)) (by (with_reducible repeat (first | refine blk_drewN ?_ _ | refine blk_drew ?_ | refine blk_alloc ?_ _)); exact BK137.out) hb); have n1_ := Aside0.mk (below_step (by repeat (first | (with_reducible first | exact HB.out | apply below_alloc | apply pw_below_drewN | apply below_drew1 | refine below_set ?_ GE137.out) | exact HB.out)) hb); clear BK137; clear HB; have BK137 := n0_; have HB := n1_; clear n0_ n1_; (try clear hb); (try clear hb2); (try clear hk); (try clear hi); have hcz51_0 : w50.cell? ⟨gb137, 0, none⟩ = some (.string ((rd_T106 l0 x8_1).f0.f0)) := (blk_cell BK137.out 0).trans rfl; have hcz51_1 : w50.cell? ⟨gb137, 1, none⟩ = some (.string ((rd_T106 l0 x8_1).f0.f1)) := (blk_cell BK137.out 1).trans rfl; have hcz51_2 : w50.cell? ⟨gb137, 2, none⟩ = some (.string ((rd_T106 l0 x8_1).f0.f2)) := (blk_cell BK137.out 2).trans rfl; have hcz51_3 : w50.cell? ⟨gb137, 3, none⟩ = some (.bool ((rd_T106 l0 x8_1).f1)) := (blk_cell BK137.out 3).trans rfl; have hcz51_4 : w50.cell? ⟨gb137, 4, none⟩ = some (.string ((rd_T106 l0 x8_1).f2)) := (blk_cell BK137.out 4).trans rfl; have hcz51_5 : w50.cell? ⟨gb137, 5, none⟩ = some (.string ((rd_T106 l0 x8_1).f3)) := (blk_cell BK137.out 5).trans rfl; have hcz51_6 : w50.cell? ⟨gb137, 6, none⟩ = some (.string ((rd_T106 l0 x8_1).f4)) := (blk_cell BK137.out 6).trans rfl; have hcz51_7 : w50.cell? ⟨gb137, 7, none⟩ = some (.string ((rd_T106 l0 x8_1).f5)) := (blk_cell BK137.out 7).trans rfl; have hcz51_8 : w50.cell? ⟨gb137, 8, none⟩ = some (.bool ((rd_T106 l0 x8_1).f6)) := (blk_cell BK137.out 8).trans rfl; have hfz51_0 := blk_frozen BK137.out 0; have hfz51_1 := blk_frozen BK137.out 1; have hfz51_2 := blk_frozen BK137.out 2; have hfz51_3 := blk_frozen BK137.out 3; have hfz51_4 := blk_frozen BK137.out 4; have hfz51_5 := blk_frozen BK137.out 5; have hfz51_6 := blk_frozen BK137.out 6; have hfz51_7 := blk_frozen BK137.out 7; have hfz51_8 := blk_frozen BK137.out 8) | ((with_reducible refine gate_callee (f := 75) rfl ?_); refine goesL_ (some 51) rfl rfl Try.func75 (by kernel_rfl) rfl #[.agg #[.string ((rd_T106 l0 x8_1).f0.f0), .string ((rd_T106 l0 x8_1).f0.f1), .string ((rd_T106 l0 x8_1).f0.f2), .bool ((rd_T106 l0 x8_1).f1), .string ((rd_T106 l0 x8_1).f2), .string ((rd_T106 l0 x8_1).f3), .string ((rd_T106 l0 x8_1).f4), .string ((rd_T106 l0 x8_1).f5), .bool ((rd_T106 l0 x8_1).f6)]] rfl (by (try simp only [List.map_toArray, List.map_cons, List.map_nil]); first | done | rfl | (simp only [List.length_drop, List.length_take]; rfl)) ?_; (with_reducible refine (doc_Part_isText.calls ((rd_T106 l0 x8_1).f0.f0) ((rd_T106 l0 x8_1).f0.f1) ((rd_T106 l0 x8_1).f0.f2) ((rd_T106 l0 x8_1).f1) ((rd_T106 l0 x8_1).f2) ((rd_T106 l0 x8_1).f3) ((rd_T106 l0 x8_1).f4) ((rd_T106 l0 x8_1).f5) ((rd_T106 l0 x8_1).f6) t145 _ A48.out).mono ?_); rintro e w52 ⟨rfl, hb⟩; refine ⟨_, rfl, ?_⟩; have n0_ := Aside0.mk (blk_below (g := gb137) (o := .cells #[.string ((rd_T106 l0 x8_1).f0.f0), .string ((rd_T106 l0 x8_1).f0.f1), .string ((rd_T106 l0 x8_1).f0.f2), .bool ((rd_T106 l0 x8_1).f1), .string ((rd_T106 l0 x8_1).f2), .string ((rd_T106 l0 x8_1).f3), .string ((rd_T106 l0 x8_1).f4), .string ((rd_T106 l0 x8_1).f5), .bool ((rd_T106 l0 x8_1).f6)] 106 (0, 0)) (by (with_reducible repeat (first | refine blk_drewN ?_ _ | refine blk_drew ?_ | refine blk_alloc ?_ _)); exact BK137.out) hb); have n1_ := Aside0.mk (below_step (by repeat (first | (with_reducible first | exact HB.out | apply below_alloc | apply pw_below_drewN | apply below_drew1 | refine below_set ?_ GE137.out) | exact HB.out)) hb); clear BK137; clear HB; have BK137 := n0_; have HB := n1_; clear n0_ n1_; (try clear hb); (try clear hb2); (try clear hk); (try clear hi)))
                        go_roundg kj16
                        case measure => have := HK1.out; have := HJ4.out; have := HJ16.out; omega
                        case rel => exact ⟨(t145), (wrap64 (x8_1 + 1)), (by first | rfl | (simp; done) | (simp [*]; done)), (by first | rfl | (simp; done) | (simp [*]; done)), H', ⟨by have := HK1.out; have := HJ4.out; have := HJ16.out; omega⟩, ⟨by repeat (first | (with_reducible first | exact HB.out | apply below_alloc | apply pw_below_drewN | apply below_drew1 | refine below_set ?_ GE137.out) | exact HB.out)⟩⟩
          · rw [if_neg c4] at H
            exact absurd H (by simp)
        · rw [if_neg c3] at H
          exact absurd H (by simp)
      · rw [if_neg c2] at H
        have c2b0 : decide (x8_1 < (l0.length : Int)) = false := decide_eq_false c2
        clear c2
        obtain rfl := Option.some.inj H
        go_wp2
        go_ret
        exact ⟨by first | rfl | (simp [errW_none, errW_some] <;> rfl) | (simp [*, errW_none, errW_some] <;> rfl), by repeat (first | (with_reducible first | exact HB.out | apply below_alloc | apply pw_below_drewN | apply below_drew1) | exact HB.out)⟩

end Go.Proofs.Ytfiamddinkokbaa.F
end
