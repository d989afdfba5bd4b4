/- Texts joined into one file (wip/tools/pack.py): Fn24, Fn65, Fn113, Fn84, Fn114, Fn142, Fn115, Fn81, Fn33, BuildText, EndsS, Hoist, BuildConf0, Right, Fn72, Fits, Fn73, Fn20, Fn21, Fn78, Fn28, FeqA109, Fn77, Fn27, Fn25, Fn74, Fn23, Fn76, Fn26, Fn22, Fn31, Fn36, Fn83, Fn37, Fn35, Fn82, Fn34, May, LineA, LineB, Fn86, Fn95, Fn96, Fn154, Fn130, Fn98, Fn131, Fn99 -/
import Derived.Test.YtfiamddinkokbaaMS1
import Derived.Test.YtfiamddinkokbaaMS2
import Derived.Deep.RegionHeld3
import Derived.Shelf.SlicesQ.IndexFunc
section
set_option linter.unusedVariables false
set_option linter.unusedSimpArgs false
namespace Go.Proofs.Ytfiamddinkokbaa.F
open Go.RowKit Go.Proofs.YtfiamddinkokbaaW.PrintWords Go.Proofs.YtfiamddinkokbaaW.PrintLast Go.Proofs.YtfiamddinkokbaaW.PrintMore
attribute [local go_sem] max2_int min2_int max_two min_two max_three min_three max_four min_four
set_option linter.unusedVariables false
set_option linter.unusedSimpArgs false
attribute [local go_sem high] eqA106
def doc_Of.l0 : Nat → List (S106) → List (S106) → Int → Int → Option ((List (S106)))
 | 0, _, _, _, _ => none
 | k + 1, x3, x7, x8, x9 => if x9 < x8 then (if 0 ≤ x9 then (if x9 < (x7.length : Int) then (if (((((rd_T106 x7 x9).f0.f0).toList).isEmpty && ((((rd_T106 x7 x9).f0.f1).toList).isEmpty && ((((rd_T106 x7 x9).f0.f2).toList).isEmpty))) && (!((rd_T106 x7 x9).f1) && ((((rd_T106 x7 x9).f2).toList).isEmpty && ((((rd_T106 x7 x9).f3).toList).isEmpty && ((((rd_T106 x7 x9).f4).toList).isEmpty && ((((rd_T106 x7 x9).f5).toList).isEmpty && (!((rd_T106 x7 x9).f6)))))))) = true then (doc_Of.l0 k x3 x7 x8 (wrap64 (x9 + 1))) else ((doc_Part_isText.f ((rd_T106 x7 x9).f0.f0) ((rd_T106 x7 x9).f0.f1) ((rd_T106 x7 x9).f0.f2) ((rd_T106 x7 x9).f1) ((rd_T106 x7 x9).f2) ((rd_T106 x7 x9).f3) ((rd_T106 x7 x9).f4) ((rd_T106 x7 x9).f5) ((rd_T106 x7 x9).f6)).bind fun t116 => (if t116 = true then (if (x3.length : Int) > 0 then (if 0 ≤ (wrap64 ((x3.length : Int) - 1)) then (if (wrap64 ((x3.length : Int) - 1)) < (x3.length : Int) then ((doc_Part_isText.f ((rd_T106 x3 (wrap64 ((x3.length : Int) - 1))).f0.f0) ((rd_T106 x3 (wrap64 ((x3.length : Int) - 1))).f0.f1) ((rd_T106 x3 (wrap64 ((x3.length : Int) - 1))).f0.f2) ((rd_T106 x3 (wrap64 ((x3.length : Int) - 1))).f1) ((rd_T106 x3 (wrap64 ((x3.length : Int) - 1))).f2) ((rd_T106 x3 (wrap64 ((x3.length : Int) - 1))).f3) ((rd_T106 x3 (wrap64 ((x3.length : Int) - 1))).f4) ((rd_T106 x3 (wrap64 ((x3.length : Int) - 1))).f5) ((rd_T106 x3 (wrap64 ((x3.length : Int) - 1))).f6)).bind fun t118 => (if t118 = true then (if ((rd_T106 x3 (wrap64 ((x3.length : Int) - 1))).f2).size + ((rd_T106 x7 x9).f2).size ≤ 9223372036854775807 then (doc_Of.l0 k (x3.set ((wrap64 ((x3.length : Int) - 1)) : Int).toNat (⟨(⟨(rd_T106 x3 (wrap64 ((x3.length : Int) - 1))).f0.f0, (rd_T106 x3 (wrap64 ((x3.length : Int) - 1))).f0.f1, (rd_T106 x3 (wrap64 ((x3.length : Int) - 1))).f0.f2⟩ : S84), (rd_T106 x3 (wrap64 ((x3.length : Int) - 1))).f1, ((rd_T106 x3 (wrap64 ((x3.length : Int) - 1))).f2) ++ ((rd_T106 x7 x9).f2), (rd_T106 x3 (wrap64 ((x3.length : Int) - 1))).f3, (rd_T106 x3 (wrap64 ((x3.length : Int) - 1))).f4, (rd_T106 x3 (wrap64 ((x3.length : Int) - 1))).f5, (rd_T106 x3 (wrap64 ((x3.length : Int) - 1))).f6⟩ : S106)) x7 x8 (wrap64 (x9 + 1))) else (none)) else (if x3.length < 1099511627776 then (doc_Of.l0 k (x3 ++ [(⟨(⟨(rd_T106 x7 x9).f0.f0, (rd_T106 x7 x9).f0.f1, (rd_T106 x7 x9).f0.f2⟩ : S84), (rd_T106 x7 x9).f1, (rd_T106 x7 x9).f2, (rd_T106 x7 x9).f3, (rd_T106 x7 x9).f4, (rd_T106 x7 x9).f5, (rd_T106 x7 x9).f6⟩ : S106)]) x7 x8 (wrap64 (x9 + 1))) else (none)))) else (none)) else (none)) else (if x3.length < 1099511627776 then (doc_Of.l0 k (x3 ++ [(⟨(⟨(rd_T106 x7 x9).f0.f0, (rd_T106 x7 x9).f0.f1, (rd_T106 x7 x9).f0.f2⟩ : S84), (rd_T106 x7 x9).f1, (rd_T106 x7 x9).f2, (rd_T106 x7 x9).f3, (rd_T106 x7 x9).f4, (rd_T106 x7 x9).f5, (rd_T106 x7 x9).f6⟩ : S106)]) x7 x8 (wrap64 (x9 + 1))) else (none))) else (if x3.length < 1099511627776 then (doc_Of.l0 k (x3 ++ [(⟨(⟨(rd_T106 x7 x9).f0.f0, (rd_T106 x7 x9).f0.f1, (rd_T106 x7 x9).f0.f2⟩ : S84), (rd_T106 x7 x9).f1, (rd_T106 x7 x9).f2, (rd_T106 x7 x9).f3, (rd_T106 x7 x9).f4, (rd_T106 x7 x9).f5, (rd_T106 x7 x9).f6⟩ : S106)]) x7 x8 (wrap64 (x9 + 1))) else (none))))) else (none)) else (none)) else (some x3)
def doc_Of.f (k : Nat) (l0 : List (S106)) : Option ((List (S106))) := doc_Of.l0 k ([] : List (S106)) l0 (l0.length : Int) 0
theorem doc_Of.mono_l : ∀ k, (∀ y0 y1 y2 y3, LeO (doc_Of.l0 k y0 y1 y2 y3) (doc_Of.l0 (k + 1) y0 y1 y2 y3))
 | 0 => fun _ _ _ _ r h => by simp [doc_Of.l0] at h
 | k + 1 => by
  have ih0 := doc_Of.mono_l k
  ·intro y0 y1 y2 y3
   unfold doc_Of.l0
   repeat' first
   | (with_reducible exact ih0 _ _ _ _)
   | (with_reducible exact LeO.refl _)
   | (with_reducible exact LeO.none _)
   | (with_reducible refine LeO.ite ?_ ?_)
   | (with_reducible refine LeO.bind ?_ (fun _ => ?_))
   | exact ih0 _ _ _ _
   | exact LeO.none _
   | refine LeO.ite ?_ ?_
   | refine LeO.bind ?_ (fun _ => ?_)
theorem doc_Of.mono : ∀ a0 k, LeO (doc_Of.f k a0) (doc_Of.f (k + 1) a0) := by
 intro a0 k
 have ih0 := doc_Of.mono_l k
 unfold doc_Of.f
 repeat' first
   | (with_reducible exact ih0 _ _ _ _)
   | (with_reducible exact LeO.refl _)
   | (with_reducible exact LeO.none _)
   | (with_reducible refine LeO.ite ?_ ?_)
   | (with_reducible refine LeO.bind ?_ (fun _ => ?_))
   | exact ih0 _ _ _ _
   | exact LeO.none _
   | refine LeO.ite ?_ ?_
   | refine LeO.bind ?_ (fun _ => ?_)
def doc_Of.T9 : Bool × List (List Nat × List Nat) := (true, [([], []), ([], []), ([1], [1]), ([0, 2], [0, 2]), ([3], [3]), ([4], [4]), ([], []), ([6], [6]), ([5, 7], [5, 7]), ([0, 2, 0, 1, 2, 3, 4, 5, 6, 7, 8], [0, 2]), ([9, 0, 1, 2, 3, 4, 5, 6, 7, 8], [9]), ([10, 8, 0, 1, 2, 3, 4, 5, 6, 7, 8], [8, 10])])
def doc_Of.B9 : List Nat := [0, 0, 2, 7, 15, 31, 0, 64, 255, 511, 1023, 2047]
theorem doc_Of.tab9 : rtab .any (opsOf Try.f24 9) = doc_Of.T9 := by kernel_rfl
theorem doc_Of.bits9 : waitsOk doc_Of.T9.2 doc_Of.B9 = true := by kernel_rfl
set_option maxHeartbeats 8000000 in
set_option maxRecDepth 100000 in
theorem doc_Of.calls (k : Nat) (A0 : Option Addr) (c0 : Nat) (l0 : List (S106)) (r : List (S106)) (w : World) (hr0 : Kd.C k106 w A0 l0.length l0) (hc0 : l0.length ≤ c0) (h : doc_Of.f k l0 = some r) :
  Calls Try.prog 24 #[.slice A0 l0.length c0] w fun e w' => ∃ v0_ : Value, e = .returned (v0_) ∧ Kd.R k106 106 w' w.heap.size (fun _ => True) v0_ r ∧ Below w.heap.size w w' := by
 have hu106 := Try.underlying106
 have HR0 := Aside0.mk hr0
 have HC0 := Aside0.mk hc0
 clear hr0 hc0
 have HB := Aside0.mk (Below.refl w.heap.size w)
 have H : (doc_Of.l0 k ([] : List (S106)) l0 (l0.length : Int) 0) = some r := h
 clear h
 have H' := Aside0.mk H
 clear H
 go_enter Try.func24, Try.ntmps24
 go_wp2
 go_loopg [3, 9] k (fun kq v3 v9 w' => ∃ (x3_1 : List (S106)) (x9_1 : Int), v9 = .int .i64 x9_1 ∧ Aside0 (doc_Of.l0 kq x3_1 l0 (l0.length : Int) x9_1 = some r) ∧ Aside0 (kq ≤ k) ∧ Aside0 (Kd.R k106 106 w' w.heap.size (fun _ => True) v3 x3_1) ∧ Aside0 (Below w.heap.size w w'))
 case atStart => exact ⟨(([] : List (S106))), (0), (by first | rfl | (simp; done) | (simp [*]; done)), H', ⟨Nat.le_refl _⟩, ⟨by first | exact Kd.R_nil _ _ _ _ _ | exact Kd.N_nil _ _ _ _ _ | exact Kd.V_nil _ _ _ _ _ | exact Kd.Q_nil _ _ _ _ _ | exact Kd.S_nil _ _ _ _ _⟩, ⟨by repeat (first | (with_reducible first | exact HB.out | apply below_alloc | apply pw_below_drewN | apply below_drew1) | exact HB.out)⟩⟩
 case round =>
  clear H'
  obtain ⟨x3_1, x9_1, rfl, HA, HK1, HO_3, HB⟩ := hrel
  cases gk with
  | zero => exact absurd HA.out (by simp [doc_Of.l0])
  | succ k1 =>
   have H := HA.out
   clear HA
   simp only [doc_Of.l0] at H
   by_cases c2 : x9_1 < (l0.length : Int)
   ·rw [if_pos c2] at H
    have c2b0 : decide (x9_1 < (l0.length : Int)) = true := decide_eq_true c2
    clear c2
    by_cases c3 : 0 ≤ x9_1
    ·rw [if_pos c3] at H
     have c3b0 : decide (0 ≤ x9_1) = true := decide_eq_true c3
     clear c3
     by_cases c4 : x9_1 < (l0.length : Int)
     ·rw [if_pos c4] at H
      have c4b0 : decide (x9_1 < (l0.length : Int)) = true := decide_eq_true c4
      clear c4
      by_cases c5 : (((((rd_T106 l0 x9_1).f0.f0).toList).isEmpty && ((((rd_T106 l0 x9_1).f0.f1).toList).isEmpty && ((((rd_T106 l0 x9_1).f0.f2).toList).isEmpty))) && (!((rd_T106 l0 x9_1).f1) && ((((rd_T106 l0 x9_1).f2).toList).isEmpty && ((((rd_T106 l0 x9_1).f3).toList).isEmpty && ((((rd_T106 l0 x9_1).f4).toList).isEmpty && ((((rd_T106 l0 x9_1).f5).toList).isEmpty && (!((rd_T106 l0 x9_1).f6)))))))) = true
      ·rw [if_pos c5] at H
       have c5b0 : (((((rd_T106 l0 x9_1).f0.f0).toList).isEmpty && ((((rd_T106 l0 x9_1).f0.f1).toList).isEmpty && ((((rd_T106 l0 x9_1).f0.f2).toList).isEmpty))) && (!((rd_T106 l0 x9_1).f1) && ((((rd_T106 l0 x9_1).f2).toList).isEmpty && ((((rd_T106 l0 x9_1).f3).toList).isEmpty && ((((rd_T106 l0 x9_1).f4).toList).isEmpty && ((((rd_T106 l0 x9_1).f5).toList).isEmpty && (!((rd_T106 l0 x9_1).f6)))))))) = true := c5
       clear c5
       have H' := Aside0.mk H
       clear H
       have p114 : 0 ≤ (x9_1 : Int) := of_decide_eq_true (by first | (with_reducible assumption) | assumption)
       have q114 : x9_1 < (l0.length : Int) := of_decide_eq_true (by first | (with_reducible assumption) | assumption)
       obtain ⟨ad114, e114, hx114_0, hx114_1, hx114_2, hx114_3, hx114_4, hx114_5, hx114_6, hx114_7, hx114_8⟩ := at_T106 HR0.out x9_1 p114 q114
       cases e114
       replace hx114_0 := (HB.out.cell (World.block_lt_of_cell? w _ hx114_0)).trans hx114_0
       replace hx114_1 := (HB.out.cell (World.block_lt_of_cell? w _ hx114_1)).trans hx114_1
       replace hx114_2 := (HB.out.cell (World.block_lt_of_cell? w _ hx114_2)).trans hx114_2
       replace hx114_3 := (HB.out.cell (World.block_lt_of_cell? w _ hx114_3)).trans hx114_3
       replace hx114_4 := (HB.out.cell (World.block_lt_of_cell? w _ hx114_4)).trans hx114_4
       replace hx114_5 := (HB.out.cell (World.block_lt_of_cell? w _ hx114_5)).trans hx114_5
       replace hx114_6 := (HB.out.cell (World.block_lt_of_cell? w _ hx114_6)).trans hx114_6
       replace hx114_7 := (HB.out.cell (World.block_lt_of_cell? w _ hx114_7)).trans hx114_7
       replace hx114_8 := (HB.out.cell (World.block_lt_of_cell? w _ hx114_8)).trans hx114_8
       replace p114 := eq_true p114
       replace q114 := eq_true q114
       go_wp2_with (first | ((with_reducible refine gate_dst (N := 5) rfl ?_); refine box_event ?hg (N := 5) ?hd (cs := #[.string (⟨#[]⟩ : ByteArray), .string (⟨#[]⟩ : ByteArray), .string (⟨#[]⟩ : ByteArray), .bool false, .string (⟨#[]⟩ : ByteArray), .string (⟨#[]⟩ : ByteArray), .string (⟨#[]⟩ : ByteArray), .string (⟨#[]⟩ : ByteArray), .bool false]) (t := 106) ?hr ?_; (case hd => rfl); (case hg => rfl); (case hr => first | (go_simp; done) | (go_simp; rfl)); intro gb115 hg w6 hbox hb; have n0_ := Aside0.mk (Kd.R_below (Kd.R_elderB (by (with_reducible repeat (first | apply Kd.R_alloc | apply Kd.R_drewN | apply Kd.R_drew)); exact HO_3.out) gb115 (Nat.le_of_eq hg.symm)) hb); have n1_ := Aside0.mk (below_step (by repeat (first | (with_reducible first | exact HB.out | apply below_alloc | apply pw_below_drewN | apply below_drew1) | exact HB.out)) hb); have n2_ := Aside0.mk (hbox); have n3_ := Aside0.mk ((by rw [hg]; exact (below_size (by repeat (first | (with_reducible first | exact HB.out | apply below_alloc | apply pw_below_drewN | apply below_drew1) | exact HB.out))) : w.heap.size ≤ gb115)); have n4_ := Aside0.mk ((by rw [hg]; exact (below_size (by repeat (first | (with_reducible first | exact HB.out | apply below_alloc | apply pw_below_drewN | apply below_drew1) | exact HB.out))) : w.heap.size ≤ gb115)); clear HO_3; clear HB; have HO_3 := n0_; have HB := n1_; have BK115 := n2_; have GW115 := n3_; have GE115 := n4_; clear n0_ n1_ n2_ n3_ n4_; clear hb hbox hg; have hcz7_0 : w6.cell? ⟨gb115, 0, none⟩ = some (.string (⟨#[]⟩ : ByteArray)) := (blk_cell BK115.out 0).trans rfl; have hcz7_1 : w6.cell? ⟨gb115, 1, none⟩ = some (.string (⟨#[]⟩ : ByteArray)) := (blk_cell BK115.out 1).trans rfl; have hcz7_2 : w6.cell? ⟨gb115, 2, none⟩ = some (.string (⟨#[]⟩ : ByteArray)) := (blk_cell BK115.out 2).trans rfl; have hcz7_3 : w6.cell? ⟨gb115, 3, none⟩ = some (.bool false) := (blk_cell BK115.out 3).trans rfl; have hcz7_4 : w6.cell? ⟨gb115, 4, none⟩ = some (.string (⟨#[]⟩ : ByteArray)) := (blk_cell BK115.out 4).trans rfl; have hcz7_5 : w6.cell? ⟨gb115, 5, none⟩ = some (.string (⟨#[]⟩ : ByteArray)) := (blk_cell BK115.out 5).trans rfl; have hcz7_6 : w6.cell? ⟨gb115, 6, none⟩ = some (.string (⟨#[]⟩ : ByteArray)) := (blk_cell BK115.out 6).trans rfl; have hcz7_7 : w6.cell? ⟨gb115, 7, none⟩ = some (.string (⟨#[]⟩ : ByteArray)) := (blk_cell BK115.out 7).trans rfl; have hcz7_8 : w6.cell? ⟨gb115, 8, none⟩ = some (.bool false) := (blk_cell BK115.out 8).trans rfl; have hfz7_0 := blk_frozen BK115.out 0; have hfz7_1 := blk_frozen BK115.out 1; have hfz7_2 := blk_frozen BK115.out 2; have hfz7_3 := blk_frozen BK115.out 3; have hfz7_4 := blk_frozen BK115.out 4; have hfz7_5 := blk_frozen BK115.out 5; have hfz7_6 := blk_frozen BK115.out 6; have hfz7_7 := blk_frozen BK115.out 7; have hfz7_8 := blk_frozen BK115.out 8; obtain ⟨Ao8, co8, eo8⟩ := Kd.R_slice HO_3.out; subst eo8))
       go_roundg k1
       case measure => have := HK1.out; omega
       case rel => exact ⟨(x3_1), (wrap64 (x9_1 + 1)), (by first | rfl | (simp; done) | (simp [*]; done)), H', ⟨by have := HK1.out; omega⟩, ⟨by (with_reducible repeat (first | apply Kd.R_alloc | apply Kd.R_drewN | apply Kd.R_drew)); exact Kd.R_mono (Kd.R_far (p := ⟨gb115, 8, none⟩) (Kd.R_far (p := ⟨gb115, 7, none⟩) (Kd.R_far (p := ⟨gb115, 6, none⟩) (Kd.R_far (p := ⟨gb115, 5, none⟩) (Kd.R_far (p := ⟨gb115, 4, none⟩) (Kd.R_far (p := ⟨gb115, 3, none⟩) (Kd.R_far (p := ⟨gb115, 2, none⟩) (Kd.R_far (p := ⟨gb115, 1, none⟩) (Kd.R_far (p := ⟨gb115, 0, none⟩) (Kd.R_mono HO_3.out (fun k_ hk => (⟨hk, hk.2⟩ : _ ∧ k_ ≠ gb115))) (fun _ hk => hk.2) (.string ((rd_T106 l0 x9_1).f0.f0))) (fun _ hk => hk.2) (.string ((rd_T106 l0 x9_1).f0.f1))) (fun _ hk => hk.2) (.string ((rd_T106 l0 x9_1).f0.f2))) (fun _ hk => hk.2) (.bool ((rd_T106 l0 x9_1).f1))) (fun _ hk => hk.2) (.string ((rd_T106 l0 x9_1).f2))) (fun _ hk => hk.2) (.string ((rd_T106 l0 x9_1).f3))) (fun _ hk => hk.2) (.string ((rd_T106 l0 x9_1).f4))) (fun _ hk => hk.2) (.string ((rd_T106 l0 x9_1).f5))) (fun _ hk => hk.2) (.bool ((rd_T106 l0 x9_1).f6))) (fun _ hk => trivial)⟩, ⟨by repeat (first | (with_reducible first | exact HB.out | apply below_alloc | apply pw_below_drewN | apply below_drew1 | refine below_set ?_ GE115.out) | exact HB.out)⟩⟩
      ·rw [if_neg c5] at H
       have c5b0 : (((((rd_T106 l0 x9_1).f0.f0).toList).isEmpty && ((((rd_T106 l0 x9_1).f0.f1).toList).isEmpty && ((((rd_T106 l0 x9_1).f0.f2).toList).isEmpty))) && (!((rd_T106 l0 x9_1).f1) && ((((rd_T106 l0 x9_1).f2).toList).isEmpty && ((((rd_T106 l0 x9_1).f3).toList).isEmpty && ((((rd_T106 l0 x9_1).f4).toList).isEmpty && ((((rd_T106 l0 x9_1).f5).toList).isEmpty && (!((rd_T106 l0 x9_1).f6)))))))) = false := by simpa using c5
       clear c5
       replace H := Option.bind_eq_some_iff.mp H
       obtain ⟨t116, A90, H⟩ := H
       replace H : (if t116 = true then (if (x3_1.length : Int) > 0 then (if 0 ≤ (wrap64 ((x3_1.length : Int) - 1)) then (if (wrap64 ((x3_1.length : Int) - 1)) < (x3_1.length : Int) then ((doc_Part_isText.f ((rd_T106 x3_1 (wrap64 ((x3_1.length : Int) - 1))).f0.f0) ((rd_T106 x3_1 (wrap64 ((x3_1.length : Int) - 1))).f0.f1) ((rd_T106 x3_1 (wrap64 ((x3_1.length : Int) - 1))).f0.f2) ((rd_T106 x3_1 (wrap64 ((x3_1.length : Int) - 1))).f1) ((rd_T106 x3_1 (wrap64 ((x3_1.length : Int) - 1))).f2) ((rd_T106 x3_1 (wrap64 ((x3_1.length : Int) - 1))).f3) ((rd_T106 x3_1 (wrap64 ((x3_1.length : Int) - 1))).f4) ((rd_T106 x3_1 (wrap64 ((x3_1.length : Int) - 1))).f5) ((rd_T106 x3_1 (wrap64 ((x3_1.length : Int) - 1))).f6)).bind fun t118 => (if t118 = true then (if ((rd_T106 x3_1 (wrap64 ((x3_1.length : Int) - 1))).f2).size + ((rd_T106 l0 x9_1).f2).size ≤ 9223372036854775807 then (doc_Of.l0 k1 (x3_1.set ((wrap64 ((x3_1.length : Int) - 1)) : Int).toNat (⟨(⟨(rd_T106 x3_1 (wrap64 ((x3_1.length : Int) - 1))).f0.f0, (rd_T106 x3_1 (wrap64 ((x3_1.length : Int) - 1))).f0.f1, (rd_T106 x3_1 (wrap64 ((x3_1.length : Int) - 1))).f0.f2⟩ : S84), (rd_T106 x3_1 (wrap64 ((x3_1.length : Int) - 1))).f1, ((rd_T106 x3_1 (wrap64 ((x3_1.length : Int) - 1))).f2) ++ ((rd_T106 l0 x9_1).f2), (rd_T106 x3_1 (wrap64 ((x3_1.length : Int) - 1))).f3, (rd_T106 x3_1 (wrap64 ((x3_1.length : Int) - 1))).f4, (rd_T106 x3_1 (wrap64 ((x3_1.length : Int) - 1))).f5, (rd_T106 x3_1 (wrap64 ((x3_1.length : Int) - 1))).f6⟩ : S106)) l0 (l0.length : Int) (wrap64 (x9_1 + 1))) else (none)) else (if x3_1.length < 1099511627776 then (doc_Of.l0 k1 (x3_1 ++ [(⟨(⟨(rd_T106 l0 x9_1).f0.f0, (rd_T106 l0 x9_1).f0.f1, (rd_T106 l0 x9_1).f0.f2⟩ : S84), (rd_T106 l0 x9_1).f1, (rd_T106 l0 x9_1).f2, (rd_T106 l0 x9_1).f3, (rd_T106 l0 x9_1).f4, (rd_T106 l0 x9_1).f5, (rd_T106 l0 x9_1).f6⟩ : S106)]) l0 (l0.length : Int) (wrap64 (x9_1 + 1))) else (none)))) else (none)) else (none)) else (if x3_1.length < 1099511627776 then (doc_Of.l0 k1 (x3_1 ++ [(⟨(⟨(rd_T106 l0 x9_1).f0.f0, (rd_T106 l0 x9_1).f0.f1, (rd_T106 l0 x9_1).f0.f2⟩ : S84), (rd_T106 l0 x9_1).f1, (rd_T106 l0 x9_1).f2, (rd_T106 l0 x9_1).f3, (rd_T106 l0 x9_1).f4, (rd_T106 l0 x9_1).f5, (rd_T106 l0 x9_1).f6⟩ : S106)]) l0 (l0.length : Int) (wrap64 (x9_1 + 1))) else (none))) else (if x3_1.length < 1099511627776 then (doc_Of.l0 k1 (x3_1 ++ [(⟨(⟨(rd_T106 l0 x9_1).f0.f0, (rd_T106 l0 x9_1).f0.f1, (rd_T106 l0 x9_1).f0.f2⟩ : S84), (rd_T106 l0 x9_1).f1, (rd_T106 l0 x9_1).f2, (rd_T106 l0 x9_1).f3, (rd_T106 l0 x9_1).f4, (rd_T106 l0 x9_1).f5, (rd_T106 l0 x9_1).f6⟩ : S106)]) l0 (l0.length : Int) (wrap64 (x9_1 + 1))) else (none))) = some r := H
       have A9 := Aside0.mk A90
       clear A90
       by_cases c10 : t116 = true
       ·subst c10
        have H1 : (if (x3_1.length : Int) > 0 then (if 0 ≤ (wrap64 ((x3_1.length : Int) - 1)) then (if (wrap64 ((x3_1.length : Int) - 1)) < (x3_1.length : Int) then ((doc_Part_isText.f ((rd_T106 x3_1 (wrap64 ((x3_1.length : Int) - 1))).f0.f0) ((rd_T106 x3_1 (wrap64 ((x3_1.length : Int) - 1))).f0.f1) ((rd_T106 x3_1 (wrap64 ((x3_1.length : Int) - 1))).f0.f2) ((rd_T106 x3_1 (wrap64 ((x3_1.length : Int) - 1))).f1) ((rd_T106 x3_1 (wrap64 ((x3_1.length : Int) - 1))).f2) ((rd_T106 x3_1 (wrap64 ((x3_1.length : Int) - 1))).f3) ((rd_T106 x3_1 (wrap64 ((x3_1.length : Int) - 1))).f4) ((rd_T106 x3_1 (wrap64 ((x3_1.length : Int) - 1))).f5) ((rd_T106 x3_1 (wrap64 ((x3_1.length : Int) - 1))).f6)).bind fun t118 => (if t118 = true then (if ((rd_T106 x3_1 (wrap64 ((x3_1.length : Int) - 1))).f2).size + ((rd_T106 l0 x9_1).f2).size ≤ 9223372036854775807 then (doc_Of.l0 k1 (x3_1.set ((wrap64 ((x3_1.length : Int) - 1)) : Int).toNat (⟨(⟨(rd_T106 x3_1 (wrap64 ((x3_1.length : Int) - 1))).f0.f0, (rd_T106 x3_1 (wrap64 ((x3_1.length : Int) - 1))).f0.f1, (rd_T106 x3_1 (wrap64 ((x3_1.length : Int) - 1))).f0.f2⟩ : S84), (rd_T106 x3_1 (wrap64 ((x3_1.length : Int) - 1))).f1, ((rd_T106 x3_1 (wrap64 ((x3_1.length : Int) - 1))).f2) ++ ((rd_T106 l0 x9_1).f2), (rd_T106 x3_1 (wrap64 ((x3_1.length : Int) - 1))).f3, (rd_T106 x3_1 (wrap64 ((x3_1.length : Int) - 1))).f4, (rd_T106 x3_1 (wrap64 ((x3_1.length : Int) - 1))).f5, (rd_T106 x3_1 (wrap64 ((x3_1.length : Int) - 1))).f6⟩ : S106)) l0 (l0.length : Int) (wrap64 (x9_1 + 1))) else (none)) else (if x3_1.length < 1099511627776 then (doc_Of.l0 k1 (x3_1 ++ [(⟨(⟨(rd_T106 l0 x9_1).f0.f0, (rd_T106 l0 x9_1).f0.f1, (rd_T106 l0 x9_1).f0.f2⟩ : S84), (rd_T106 l0 x9_1).f1, (rd_T106 l0 x9_1).f2, (rd_T106 l0 x9_1).f3, (rd_T106 l0 x9_1).f4, (rd_T106 l0 x9_1).f5, (rd_T106 l0 x9_1).f6⟩ : S106)]) l0 (l0.length : Int) (wrap64 (x9_1 + 1))) else (none)))) else (none)) else (none)) else (if x3_1.length < 1099511627776 then (doc_Of.l0 k1 (x3_1 ++ [(⟨(⟨(rd_T106 l0 x9_1).f0.f0, (rd_T106 l0 x9_1).f0.f1, (rd_T106 l0 x9_1).f0.f2⟩ : S84), (rd_T106 l0 x9_1).f1, (rd_T106 l0 x9_1).f2, (rd_T106 l0 x9_1).f3, (rd_T106 l0 x9_1).f4, (rd_T106 l0 x9_1).f5, (rd_T106 l0 x9_1).f6⟩ : S106)]) l0 (l0.length : Int) (wrap64 (x9_1 + 1))) else (none))) = some r := by rw [if_pos rfl] at H; exact H
        clear H
        have H := H1
        clear H1
        by_cases c11 : (x3_1.length : Int) > 0
        ·rw [if_pos c11] at H
         have c11b0 : decide (0 < (x3_1.length : Int)) = true := decide_eq_true c11
         have c11b1 : decide (0 < x3_1.length) = true := decide_eq_true (by omega)
         clear c11
         obtain ⟨ji12, hji12⟩ : ∃ j_ : Int, (wrap64 ((x3_1.length : Int) - 1)) = j_ := ⟨_, rfl⟩
         replace H : (if 0 ≤ (ji12) then (if (ji12) < (x3_1.length : Int) then ((doc_Part_isText.f ((rd_T106 x3_1 (ji12)).f0.f0) ((rd_T106 x3_1 (ji12)).f0.f1) ((rd_T106 x3_1 (ji12)).f0.f2) ((rd_T106 x3_1 (ji12)).f1) ((rd_T106 x3_1 (ji12)).f2) ((rd_T106 x3_1 (ji12)).f3) ((rd_T106 x3_1 (ji12)).f4) ((rd_T106 x3_1 (ji12)).f5) ((rd_T106 x3_1 (ji12)).f6)).bind fun t118 => (if t118 = true then (if ((rd_T106 x3_1 (ji12)).f2).size + ((rd_T106 l0 x9_1).f2).size ≤ 9223372036854775807 then (doc_Of.l0 k1 (x3_1.set ((ji12) : Int).toNat (⟨(⟨(rd_T106 x3_1 (ji12)).f0.f0, (rd_T106 x3_1 (ji12)).f0.f1, (rd_T106 x3_1 (ji12)).f0.f2⟩ : S84), (rd_T106 x3_1 (ji12)).f1, ((rd_T106 x3_1 (ji12)).f2) ++ ((rd_T106 l0 x9_1).f2), (rd_T106 x3_1 (ji12)).f3, (rd_T106 x3_1 (ji12)).f4, (rd_T106 x3_1 (ji12)).f5, (rd_T106 x3_1 (ji12)).f6⟩ : S106)) l0 (l0.length : Int) (wrap64 (x9_1 + 1))) else (none)) else (if x3_1.length < 1099511627776 then (doc_Of.l0 k1 (x3_1 ++ [(⟨(⟨(rd_T106 l0 x9_1).f0.f0, (rd_T106 l0 x9_1).f0.f1, (rd_T106 l0 x9_1).f0.f2⟩ : S84), (rd_T106 l0 x9_1).f1, (rd_T106 l0 x9_1).f2, (rd_T106 l0 x9_1).f3, (rd_T106 l0 x9_1).f4, (rd_T106 l0 x9_1).f5, (rd_T106 l0 x9_1).f6⟩ : S106)]) l0 (l0.length : Int) (wrap64 (x9_1 + 1))) else (none)))) else (none)) else (none)) = some r := by first | (rw [hji12] at H; exact H) | (simp only [hji12] at H ⊢; exact H)
         (try rw [hji12] at A9)
         have hji12w : (IntKind.i64.wrap ((x3_1.length : Int) - 1)) = ji12 := (i64_w _).trans hji12
         by_cases c13 : 0 ≤ (ji12)
         ·rw [if_pos c13] at H
          have c13b0 : decide (0 ≤ (ji12)) = true := decide_eq_true c13
          clear c13
          by_cases c14 : (ji12) < (x3_1.length : Int)
          ·rw [if_pos c14] at H
           have c14b0 : decide ((ji12) < (x3_1.length : Int)) = true := decide_eq_true c14
           clear c14
           replace H := Option.bind_eq_some_iff.mp H
           obtain ⟨t118, A150, H⟩ := H
           replace H : (if t118 = true then (if ((rd_T106 x3_1 (ji12)).f2).size + ((rd_T106 l0 x9_1).f2).size ≤ 9223372036854775807 then (doc_Of.l0 k1 (x3_1.set ((ji12) : Int).toNat (⟨(⟨(rd_T106 x3_1 (ji12)).f0.f0, (rd_T106 x3_1 (ji12)).f0.f1, (rd_T106 x3_1 (ji12)).f0.f2⟩ : S84), (rd_T106 x3_1 (ji12)).f1, ((rd_T106 x3_1 (ji12)).f2) ++ ((rd_T106 l0 x9_1).f2), (rd_T106 x3_1 (ji12)).f3, (rd_T106 x3_1 (ji12)).f4, (rd_T106 x3_1 (ji12)).f5, (rd_T106 x3_1 (ji12)).f6⟩ : S106)) l0 (l0.length : Int) (wrap64 (x9_1 + 1))) else (none)) else (if x3_1.length < 1099511627776 then (doc_Of.l0 k1 (x3_1 ++ [(⟨(⟨(rd_T106 l0 x9_1).f0.f0, (rd_T106 l0 x9_1).f0.f1, (rd_T106 l0 x9_1).f0.f2⟩ : S84), (rd_T106 l0 x9_1).f1, (rd_T106 l0 x9_1).f2, (rd_T106 l0 x9_1).f3, (rd_T106 l0 x9_1).f4, (rd_T106 l0 x9_1).f5, (rd_T106 l0 x9_1).f6⟩ : S106)]) l0 (l0.length : Int) (wrap64 (x9_1 + 1))) else (none))) = some r := H
           have A15 := Aside0.mk A150
           clear A150
           by_cases c16 : t118 = true
           ·subst c16
            have H1 : (if ((rd_T106 x3_1 (ji12)).f2).size + ((rd_T106 l0 x9_1).f2).size ≤ 9223372036854775807 then (doc_Of.l0 k1 (x3_1.set ((ji12) : Int).toNat (⟨(⟨(rd_T106 x3_1 (ji12)).f0.f0, (rd_T106 x3_1 (ji12)).f0.f1, (rd_T106 x3_1 (ji12)).f0.f2⟩ : S84), (rd_T106 x3_1 (ji12)).f1, ((rd_T106 x3_1 (ji12)).f2) ++ ((rd_T106 l0 x9_1).f2), (rd_T106 x3_1 (ji12)).f3, (rd_T106 x3_1 (ji12)).f4, (rd_T106 x3_1 (ji12)).f5, (rd_T106 x3_1 (ji12)).f6⟩ : S106)) l0 (l0.length : Int) (wrap64 (x9_1 + 1))) else (none)) = some r := by rw [if_pos rfl] at H; exact H
            clear H
            have H := H1
            clear H1
            by_cases c17 : ((rd_T106 x3_1 (ji12)).f2).size + ((rd_T106 l0 x9_1).f2).size ≤ 9223372036854775807
            ·rw [if_pos c17] at H
             have c17b0 := eq_true c17
             have c17b1 : decide (((rd_T106 x3_1 (ji12)).f2).size + ((rd_T106 l0 x9_1).f2).size ≤ 9223372036854775807) = true := decide_eq_true c17
             try have c17b2 : (9223372036854775807 < ((rd_T106 x3_1 (ji12)).f2).size + ((rd_T106 l0 x9_1).f2).size) = False := eq_false (Nat.not_lt.2 c17)
             obtain ⟨y120, hy120⟩ : ∃ y_ : List (S106), y_ = (x3_1.set ((ji12) : Int).toNat (⟨(⟨(rd_T106 x3_1 (ji12)).f0.f0, (rd_T106 x3_1 (ji12)).f0.f1, (rd_T106 x3_1 (ji12)).f0.f2⟩ : S84), (rd_T106 x3_1 (ji12)).f1, ((rd_T106 x3_1 (ji12)).f2) ++ ((rd_T106 l0 x9_1).f2), (rd_T106 x3_1 (ji12)).f3, (rd_T106 x3_1 (ji12)).f4, (rd_T106 x3_1 (ji12)).f5, (rd_T106 x3_1 (ji12)).f6⟩ : S106)) := ⟨_, rfl⟩
             replace H : (doc_Of.l0 k1 y120 l0 (l0.length : Int) (wrap64 (x9_1 + 1))) = some r := by first | (rw [hy120]; with_reducible exact H) | (have H2_ := (Option.bind_some _ _).symm.trans H; rw [hy120]; with_reducible exact H2_) | (have H2_ := (Option.bind_some _ _).symm.trans H; with_reducible exact H2_) | with_reducible exact H | (rw [hy120]; exact H) | exact H
             have Ny120 := Aside0.mk hy120
             clear hy120
             have H' := Aside0.mk H
             clear H
             have p114 : 0 ≤ (x9_1 : Int) := of_decide_eq_true (by first | (with_reducible assumption) | assumption)
             have q114 : x9_1 < (l0.length : Int) := of_decide_eq_true (by first | (with_reducible assumption) | assumption)
             obtain ⟨ad114, e114, hx114_0, hx114_1, hx114_2, hx114_3, hx114_4, hx114_5, hx114_6, hx114_7, hx114_8⟩ := at_T106 HR0.out x9_1 p114 q114
             cases e114
             replace hx114_0 := (HB.out.cell (World.block_lt_of_cell? w _ hx114_0)).trans hx114_0
             replace hx114_1 := (HB.out.cell (World.block_lt_of_cell? w _ hx114_1)).trans hx114_1
             replace hx114_2 := (HB.out.cell (World.block_lt_of_cell? w _ hx114_2)).trans hx114_2
             replace hx114_3 := (HB.out.cell (World.block_lt_of_cell? w _ hx114_3)).trans hx114_3
             replace hx114_4 := (HB.out.cell (World.block_lt_of_cell? w _ hx114_4)).trans hx114_4
             replace hx114_5 := (HB.out.cell (World.block_lt_of_cell? w _ hx114_5)).trans hx114_5
             replace hx114_6 := (HB.out.cell (World.block_lt_of_cell? w _ hx114_6)).trans hx114_6
             replace hx114_7 := (HB.out.cell (World.block_lt_of_cell? w _ hx114_7)).trans hx114_7
             replace hx114_8 := (HB.out.cell (World.block_lt_of_cell? w _ hx114_8)).trans hx114_8
             replace p114 := eq_true p114
             replace q114 := eq_true q114
             try go_wp2_with (first | ((with_reducible refine gate_dst (N := 5) rfl ?_); refine box_event ?hg (N := 5) ?hd (cs := #[.string (⟨#[]⟩ : ByteArray), .string (⟨#[]⟩ : ByteArray), .string (⟨#[]⟩ : ByteArray), .bool false, .string (⟨#[]⟩ : ByteArray), .string (⟨#[]⟩ : ByteArray), .string (⟨#[]⟩ : ByteArray), .string (⟨#[]⟩ : ByteArray), .bool false]) (t := 106) ?hr ?_; (case hd => rfl); (case hg => rfl); (case hr => first | (go_simp; done) | (go_simp; rfl)); intro gb115 hg w19 hbox hb; have n0_ := Aside0.mk (Kd.R_below (Kd.R_elderB (by (with_reducible repeat (first | apply Kd.R_alloc | apply Kd.R_drewN | apply Kd.R_drew)); exact HO_3.out) gb115 (Nat.le_of_eq hg.symm)) hb); have n1_ := Aside0.mk (below_step (by repeat (first | (with_reducible first | exact HB.out | apply below_alloc | apply pw_below_drewN | apply below_drew1) | exact HB.out)) hb); have n2_ := Aside0.mk (hbox); have n3_ := Aside0.mk ((by rw [hg]; exact (below_size (by repeat (first | (with_reducible first | exact HB.out | apply below_alloc | apply pw_below_drewN | apply below_drew1) | exact HB.out))) : w.heap.size ≤ gb115)); have n4_ := Aside0.mk ((by rw [hg]; exact (below_size (by repeat (first | (with_reducible first | exact HB.out | apply below_alloc | apply pw_below_drewN | apply below_drew1) | exact HB.out))) : w.heap.size ≤ gb115)); clear HO_3; clear HB; have HO_3 := n0_; have HB := n1_; have BK115 := n2_; have GW115 := n3_; have GE115 := n4_; clear n0_ n1_ n2_ n3_ n4_; clear hb hbox hg; have hcz20_0 : w19.cell? ⟨gb115, 0, none⟩ = some (.string (⟨#[]⟩ : ByteArray)) := (blk_cell BK115.out 0).trans rfl; have hcz20_1 : w19.cell? ⟨gb115, 1, none⟩ = some (.string (⟨#[]⟩ : ByteArray)) := (blk_cell BK115.out 1).trans rfl; have hcz20_2 : w19.cell? ⟨gb115, 2, none⟩ = some (.string (⟨#[]⟩ : ByteArray)) := (blk_cell BK115.out 2).trans rfl; have hcz20_3 : w19.cell? ⟨gb115, 3, none⟩ = some (.bool false) := (blk_cell BK115.out 3).trans rfl; have hcz20_4 : w19.cell? ⟨gb115, 4, none⟩ = some (.string (⟨#[]⟩ : ByteArray)) := (blk_cell BK115.out 4).trans rfl; have hcz20_5 : w19.cell? ⟨gb115, 5, none⟩ = some (.string (⟨#[]⟩ : ByteArray)) := (blk_cell BK115.out 5).trans rfl; have hcz20_6 : w19.cell? ⟨gb115, 6, none⟩ = some (.string (⟨#[]⟩ : ByteArray)) := (blk_cell BK115.out 6).trans rfl; have hcz20_7 : w19.cell? ⟨gb115, 7, none⟩ = some (.string (⟨#[]⟩ : ByteArray)) := (blk_cell BK115.out 7).trans rfl; have hcz20_8 : w19.cell? ⟨gb115, 8, none⟩ = some (.bool false) := (blk_cell BK115.out 8).trans rfl; have hfz20_0 := blk_frozen BK115.out 0; have hfz20_1 := blk_frozen BK115.out 1; have hfz20_2 := blk_frozen BK115.out 2; have hfz20_3 := blk_frozen BK115.out 3; have hfz20_4 := blk_frozen BK115.out 4; have hfz20_5 := blk_frozen BK115.out 5; have hfz20_6 := blk_frozen BK115.out 6; have hfz20_7 := blk_frozen BK115.out 7; have hfz20_8 := blk_frozen BK115.out 8; obtain ⟨Ao21, co21, eo21⟩ := Kd.R_slice HO_3.out; subst eo21) | ((with_reducible refine gate_callee (f := 75) rfl ?_); refine goesL_ (some 25) rfl rfl Try.func75 (by kernel_rfl) rfl #[.agg #[.string ((rd_T106 l0 x9_1).f0.f0), .string ((rd_T106 l0 x9_1).f0.f1), .string ((rd_T106 l0 x9_1).f0.f2), .bool ((rd_T106 l0 x9_1).f1), .string ((rd_T106 l0 x9_1).f2), .string ((rd_T106 l0 x9_1).f3), .string ((rd_T106 l0 x9_1).f4), .string ((rd_T106 l0 x9_1).f5), .bool ((rd_T106 l0 x9_1).f6)]] rfl (by (try simp only [List.map_toArray, List.map_cons, List.map_nil]); first | done | rfl | (simp only [List.length_drop, List.length_take]; rfl)) ?_; (with_reducible refine (doc_Part_isText.calls ((rd_T106 l0 x9_1).f0.f0) ((rd_T106 l0 x9_1).f0.f1) ((rd_T106 l0 x9_1).f0.f2) ((rd_T106 l0 x9_1).f1) ((rd_T106 l0 x9_1).f2) ((rd_T106 l0 x9_1).f3) ((rd_T106 l0 x9_1).f4) ((rd_T106 l0 x9_1).f5) ((rd_T106 l0 x9_1).f6) true _ A9.out).mono ?_); rintro e w22 ⟨rfl, hb⟩; refine ⟨_, rfl, ?_⟩; have n0_ := Aside0.mk (Kd.R_below (by (with_reducible repeat (first | apply Kd.R_alloc | apply Kd.R_drewN | apply Kd.R_drew)); exact (Kd.R_mono (Kd.R_far (p := ⟨gb115, 8, none⟩) (Kd.R_far (p := ⟨gb115, 7, none⟩) (Kd.R_far (p := ⟨gb115, 6, none⟩) (Kd.R_far (p := ⟨gb115, 5, none⟩) (Kd.R_far (p := ⟨gb115, 4, none⟩) (Kd.R_far (p := ⟨gb115, 3, none⟩) (Kd.R_far (p := ⟨gb115, 2, none⟩) (Kd.R_far (p := ⟨gb115, 1, none⟩) (Kd.R_far (p := ⟨gb115, 0, none⟩) (Kd.R_mono HO_3.out (fun k_ hk => (⟨hk, hk.2⟩ : _ ∧ k_ ≠ gb115))) (fun _ hk => hk.2) (.string ((rd_T106 l0 x9_1).f0.f0))) (fun _ hk => hk.2) (.string ((rd_T106 l0 x9_1).f0.f1))) (fun _ hk => hk.2) (.string ((rd_T106 l0 x9_1).f0.f2))) (fun _ hk => hk.2) (.bool ((rd_T106 l0 x9_1).f1))) (fun _ hk => hk.2) (.string ((rd_T106 l0 x9_1).f2))) (fun _ hk => hk.2) (.string ((rd_T106 l0 x9_1).f3))) (fun _ hk => hk.2) (.string ((rd_T106 l0 x9_1).f4))) (fun _ hk => hk.2) (.string ((rd_T106 l0 x9_1).f5))) (fun _ hk => hk.2) (.bool ((rd_T106 l0 x9_1).f6))) (fun _ h_ => h_.1))) hb); have n1_ := Aside0.mk (blk_below (g := gb115) (o := .cells #[.string ((rd_T106 l0 x9_1).f0.f0), .string ((rd_T106 l0 x9_1).f0.f1), .string ((rd_T106 l0 x9_1).f0.f2), .bool ((rd_T106 l0 x9_1).f1), .string ((rd_T106 l0 x9_1).f2), .string ((rd_T106 l0 x9_1).f3), .string ((rd_T106 l0 x9_1).f4), .string ((rd_T106 l0 x9_1).f5), .bool ((rd_T106 l0 x9_1).f6)] 106 (0, 0)) (by (with_reducible repeat (first | refine blk_drewN ?_ _ | refine blk_drew ?_ | refine blk_alloc ?_ _)); refine blk_put (cs := #[.string ((rd_T106 l0 x9_1).f0.f0), .string ((rd_T106 l0 x9_1).f0.f1), .string ((rd_T106 l0 x9_1).f0.f2), .bool ((rd_T106 l0 x9_1).f1), .string ((rd_T106 l0 x9_1).f2), .string ((rd_T106 l0 x9_1).f3), .string ((rd_T106 l0 x9_1).f4), .string ((rd_T106 l0 x9_1).f5), .bool false]) ?_ 8 _ rfl; (with_reducible repeat (first | refine blk_drewN ?_ _ | refine blk_drew ?_ | refine blk_alloc ?_ _)); refine blk_put (cs := #[.string ((rd_T106 l0 x9_1).f0.f0), .string ((rd_T106 l0 x9_1).f0.f1), .string ((rd_T106 l0 x9_1).f0.f2), .bool ((rd_T106 l0 x9_1).f1), .string ((rd_T106 l0 x9_1).f2), .string ((rd_T106 l0 x9_1).f3), .string ((rd_T106 l0 x9_1).f4), .string (⟨#[]⟩ : ByteArray), .bool false]) ?_ 7 _ rfl; (with_reducible repeat (first | refine blk_drewN ?_ _ | refine blk_drew ?_ | refine blk_alloc ?_ _)); refine blk_put (cs := #[.string ((rd_T106 l0 x9_1).f0.f0), .string ((rd_T106 l0 x9_1).f0.f1), .string ((rd_T106 l0 x9_1).f0.f2), .bool ((rd_T106 l0 x9_1).f1), .string ((rd_T106 l0 x9_1).f2), .string ((rd_T106 l0 x9_1).f3), .string (⟨#[]⟩ : ByteArray), .string (⟨#[]⟩ : ByteArray), .bool false]) ?_ 6 _ rfl; (with_reducible repeat (first | refine blk_drewN ?_ _ | refine blk_drew ?_ | refine blk_alloc ?_ _)); refine blk_put (cs := #[.string ((rd_T106 l0 x9_1).f0.f0), .string ((rd_T106 l0 x9_1).f0.f1), .string ((rd_T106 l0 x9_1).f0.f2), .bool ((rd_T106 l0 x9_1).f1), .string ((rd_T106 l0 x9_1).f2), .string (⟨#[]⟩ : ByteArray), .string (⟨#[]⟩ : ByteArray), .string (⟨#[]⟩ : ByteArray), .bool false]) ?_ 5 _ rfl; (with_reducible repeat (first | refine blk_drewN ?_ _ | refine blk_drew ?_ | refine blk_alloc ?_ _)); refine blk_put (cs := #[.string ((rd_T106 l0 x9_1).f0.f0), .string ((rd_T106 l0 x9_1).f0.f1), .string ((rd_T106 l0 x9_1).f0.f2), .bool ((rd_T106 l0 x9_1).f1), .string (⟨#[]⟩ : ByteArray), .string (⟨#[]⟩ : ByteArray), .string (⟨#[]⟩ : ByteArray), .string (⟨#[]⟩ : ByteArray), .bool false]) ?_ 4 _ rfl; (with_reducible repeat (first | refine blk_drewN ?_ _ | refine blk_drew ?_ | refine blk_alloc ?_ _)); refine blk_put (cs := #[.string ((rd_T106 l0 x9_1).f0.f0), .string ((rd_T106 l0 x9_1).f0.f1), .string ((rd_T106 l0 x9_1).f0.f2), .bool false, .string (⟨#[]⟩ : ByteArray), .string (⟨#[]⟩ : ByteArray), .string (⟨#[]⟩ : ByteArray), .string (⟨#[]⟩ : ByteArray), .bool false]) ?_ 3 _ rfl; (with_reducible repeat (first | refine blk_drewN ?_ _ | refine blk_drew ?_ | refine blk_alloc ?_ _)); refine blk_put (cs := #[.string ((rd_T106 l0 x9_1).f0.f0), .string ((rd_T106 l0 x9_1).f0.f1), .string (⟨#[]⟩ : ByteArray), .bool false, .string (⟨#[]⟩ : ByteArray), .string (⟨#[]⟩ : ByteArray), .string (⟨#[]⟩ : ByteArray), .string (⟨#[]⟩ : ByteArray), .bool false]) ?_ 2 _ rfl; (with_reducible repeat (first | refine blk_drewN ?_ _ | refine blk_drew ?_ | refine blk_alloc ?_ _)); refine blk_put (cs := #[.string ((rd_T106 l0 x9_1).f0.f0), .string (⟨#[]⟩ : ByteArray), .string (⟨#[]⟩ : ByteArray), .bool false, .string (⟨#[]⟩ : ByteArray), .string (⟨#[]⟩ : ByteArray), .string (⟨#[]⟩ : ByteArray), .string (⟨#[]⟩ : ByteArray), .bool false]) ?_ 1 _ rfl; (with_reducible repeat (first | refine blk_drewN ?_ _ | refine blk_drew ?_ | refine blk_alloc ?_ _)); refine blk_put (cs := #[.string (⟨#[]⟩ : ByteArray), .string (⟨#[]⟩ : ByteArray), .string (⟨#[]⟩ : ByteArray), .bool false, .string (⟨#[]⟩ : ByteArray), .string (⟨#[]⟩ : ByteArray), .string (⟨#[]⟩ : ByteArray), .string (⟨#[]⟩ : ByteArray), .bool false]) ?_ 0 _ rfl; (with_reducible repeat (first | refine blk_drewN ?_ _ | refine blk_drew ?_ | refine blk_alloc ?_ _)); exact BK115.out) hb); have n2_ := Aside0.mk (below_step (by repeat (first | (with_reducible first | exact HB.out | apply below_alloc | apply pw_below_drewN | apply below_drew1 | refine below_set ?_ GE115.out) | exact HB.out)) hb); clear HO_3; clear BK115; clear HB; have HO_3 := n0_; have BK115 := n1_; have HB := n2_; clear n0_ n1_ n2_; (try clear hb); (try clear hb2); (try clear hk); (try clear hi); have p117 : 0 ≤ ((ji12) : Int) := of_decide_eq_true (by first | (with_reducible assumption) | assumption); have q117 : (ji12) < (x3_1.length : Int) := of_decide_eq_true (by first | (with_reducible assumption) | assumption); obtain ⟨ad117, e117, hx117_0, hx117_1, hx117_2, hx117_3, hx117_4, hx117_5, hx117_6, hx117_7, hx117_8⟩ := at_T106 (Kd.R_reads' HO_3.out).2.2 (ji12) p117 q117; cases e117; replace p117 := eq_true p117; replace q117 := eq_true q117) | (go_at_call 75; (with_reducible refine (doc_Part_isText.calls ((rd_T106 x3_1 (ji12)).f0.f0) ((rd_T106 x3_1 (ji12)).f0.f1) ((rd_T106 x3_1 (ji12)).f0.f2) ((rd_T106 x3_1 (ji12)).f1) ((rd_T106 x3_1 (ji12)).f2) ((rd_T106 x3_1 (ji12)).f3) ((rd_T106 x3_1 (ji12)).f4) ((rd_T106 x3_1 (ji12)).f5) ((rd_T106 x3_1 (ji12)).f6) true _ A15.out).mono ?_); rintro e w23 ⟨rfl, hb⟩; have n0_ := Aside0.mk (Kd.R_below (by (with_reducible repeat (first | apply Kd.R_alloc | apply Kd.R_drewN | apply Kd.R_drew)); exact HO_3.out) hb); have n1_ := Aside0.mk (blk_below (g := gb115) (o := .cells #[.string ((rd_T106 l0 x9_1).f0.f0), .string ((rd_T106 l0 x9_1).f0.f1), .string ((rd_T106 l0 x9_1).f0.f2), .bool ((rd_T106 l0 x9_1).f1), .string ((rd_T106 l0 x9_1).f2), .string ((rd_T106 l0 x9_1).f3), .string ((rd_T106 l0 x9_1).f4), .string ((rd_T106 l0 x9_1).f5), .bool ((rd_T106 l0 x9_1).f6)] 106 (0, 0)) (by (with_reducible repeat (first | refine blk_drewN ?_ _ | refine blk_drew ?_ | refine blk_alloc ?_ _)); exact BK115.out) hb); have n2_ := Aside0.mk (below_step (by repeat (first | (with_reducible first | exact HB.out | apply below_alloc | apply pw_below_drewN | apply below_drew1 | refine below_set ?_ GE115.out) | exact HB.out)) hb); clear HO_3; clear BK115; clear HB; have HO_3 := n0_; have BK115 := n1_; have HB := n2_; clear n0_ n1_ n2_; (try clear hb); (try clear hb2); (try clear hk); (try clear hi)))
             have n0_ := Aside0.mk (Kd.R_drew HO_3.out)
             have n1_ := Aside0.mk (blk_drew BK115.out)
             have n2_ := Aside0.mk (below_drew1 HB.out)
             clear HO_3
             clear BK115
             clear HB
             have HO_3 := n0_
             have BK115 := n1_
             have HB := n2_
             clear n0_ n1_ n2_
             have p119 : 0 ≤ ((ji12) : Int) := of_decide_eq_true (by first | (with_reducible assumption) | assumption)
             have q119 : (ji12) < (x3_1.length : Int) := of_decide_eq_true (by first | (with_reducible assumption) | assumption)
             obtain ⟨ad119, e119, hx119_0, hx119_1, hx119_2, hx119_3, hx119_4, hx119_5, hx119_6, hx119_7, hx119_8⟩ := at_T106 (Kd.R_reads' HO_3.out).2.2 (ji12) p119 q119
             obtain rfl : ad117 = ad119 := (by injection e119)
             replace p119 := eq_true p119
             replace q119 := eq_true q119
             have p18 : 0 ≤ ((ji12) : Int) := of_decide_eq_true (by first | (with_reducible assumption) | assumption)
             have q18 : ((ji12) : Int) < ((x3_1.length : Int) : Int) := of_decide_eq_true (by first | (with_reducible assumption) | assumption)
             obtain ⟨go18, co18, eo18, gb18, gl18, cl18, HG18⟩ := Kd.R_form HO_3.out (by omega)
             (first | cases eo18 | (injection eo18 with ea_ en_ ec_; (first | subst ea_ | (injection ea_ with ea_; subst ea_)); subst ec_; clear en_))
             have GB18 := Aside0.mk gb18
             have GG18 := Aside0.mk HG18
             clear gb18 gl18 HG18
             (first | simp only [add_plain] at hx117_0 | skip)
             (first | simp only [add_plain] at hx117_1 | skip)
             (first | simp only [add_plain] at hx117_2 | skip)
             (first | simp only [add_plain] at hx117_3 | skip)
             (first | simp only [add_plain] at hx117_4 | skip)
             (first | simp only [add_plain] at hx117_5 | skip)
             (first | simp only [add_plain] at hx117_6 | skip)
             (first | simp only [add_plain] at hx117_7 | skip)
             (first | simp only [add_plain] at hx117_8 | skip)
             (first | simp only [add_plain] at hx119_0 | skip)
             (first | simp only [add_plain] at hx119_1 | skip)
             (first | simp only [add_plain] at hx119_2 | skip)
             (first | simp only [add_plain] at hx119_3 | skip)
             (first | simp only [add_plain] at hx119_4 | skip)
             (first | simp only [add_plain] at hx119_5 | skip)
             (first | simp only [add_plain] at hx119_6 | skip)
             (first | simp only [add_plain] at hx119_7 | skip)
             (first | simp only [add_plain] at hx119_8 | skip)
             obtain ⟨ce18, hcl18, hM18, hcc18, hfr18⟩ := Kd.R_elem HO_3.out z106 ((ji12) : Int) p18 q18
             obtain rfl := k106_openM hM18
             have hx18_0 : World.cell? _ ⟨go18, ((ji12) : Int).toNat * 9, none⟩ = some (.string ((rd_T106 x3_1 (ji12)).f0.f0)) := hcc18 0 _ rfl
             have hx18_1 : World.cell? _ ⟨go18, ((ji12) : Int).toNat * 9 + 1, none⟩ = some (.string ((rd_T106 x3_1 (ji12)).f0.f1)) := hcc18 1 _ rfl
             have hx18_2 : World.cell? _ ⟨go18, ((ji12) : Int).toNat * 9 + 2, none⟩ = some (.string ((rd_T106 x3_1 (ji12)).f0.f2)) := hcc18 2 _ rfl
             have hx18_3 : World.cell? _ ⟨go18, ((ji12) : Int).toNat * 9 + 3, none⟩ = some (.bool ((rd_T106 x3_1 (ji12)).f1)) := hcc18 3 _ rfl
             have hx18_4 : World.cell? _ ⟨go18, ((ji12) : Int).toNat * 9 + 4, none⟩ = some (.string ((rd_T106 x3_1 (ji12)).f2)) := hcc18 4 _ rfl
             have hx18_5 : World.cell? _ ⟨go18, ((ji12) : Int).toNat * 9 + 5, none⟩ = some (.string ((rd_T106 x3_1 (ji12)).f3)) := hcc18 5 _ rfl
             have hx18_6 : World.cell? _ ⟨go18, ((ji12) : Int).toNat * 9 + 6, none⟩ = some (.string ((rd_T106 x3_1 (ji12)).f4)) := hcc18 6 _ rfl
             have hx18_7 : World.cell? _ ⟨go18, ((ji12) : Int).toNat * 9 + 7, none⟩ = some (.string ((rd_T106 x3_1 (ji12)).f5)) := hcc18 7 _ rfl
             have hx18_8 : World.cell? _ ⟨go18, ((ji12) : Int).toNat * 9 + 8, none⟩ = some (.bool ((rd_T106 x3_1 (ji12)).f6)) := hcc18 8 _ rfl
             have hf18_0 : World.frozen? _ ⟨go18, ((ji12) : Int).toNat * 9, none⟩ = false := hfr18 0
             have hf18_1 : World.frozen? _ ⟨go18, ((ji12) : Int).toNat * 9 + 1, none⟩ = false := hfr18 1
             have hf18_2 : World.frozen? _ ⟨go18, ((ji12) : Int).toNat * 9 + 2, none⟩ = false := hfr18 2
             have hf18_3 : World.frozen? _ ⟨go18, ((ji12) : Int).toNat * 9 + 3, none⟩ = false := hfr18 3
             have hf18_4 : World.frozen? _ ⟨go18, ((ji12) : Int).toNat * 9 + 4, none⟩ = false := hfr18 4
             have hf18_5 : World.frozen? _ ⟨go18, ((ji12) : Int).toNat * 9 + 5, none⟩ = false := hfr18 5
             have hf18_6 : World.frozen? _ ⟨go18, ((ji12) : Int).toNat * 9 + 6, none⟩ = false := hfr18 6
             have hf18_7 : World.frozen? _ ⟨go18, ((ji12) : Int).toNat * 9 + 7, none⟩ = false := hfr18 7
             have hf18_8 : World.frozen? _ ⟨go18, ((ji12) : Int).toNat * 9 + 8, none⟩ = false := hfr18 8
             clear hcl18 hcc18 hfr18 hM18
             replace p18 := eq_true p18
             replace q18 := eq_true q18
             obtain ⟨ce25, hcl25, hM25, hcc25, hfr25⟩ := Kd.R_elem HO_3.out z106 ((ji12) : Int) (of_decide_eq_true (by first | (with_reducible assumption) | assumption)) (by have h_ : ((ji12) : Int) < ((x3_1.length : Int) : Int) := of_decide_eq_true (by first | (with_reducible assumption) | assumption); first | exact h_ | (have e_ := (Kd.R_reads' HO_3.out).1; omega) | simpa using h_)
             obtain rfl := k106_openM hM25
             have HP25 := (Kd.R_seg HO_3.out ((ji12) : Int) (of_decide_eq_true (by first | (with_reducible assumption) | assumption)) (by have h_ : ((ji12) : Int) < ((x3_1.length : Int) : Int) := of_decide_eq_true (by first | (with_reducible assumption) | assumption); first | exact h_ | (have e_ := (Kd.R_reads' HO_3.out).1; omega) | simpa using h_) (seg := [.string (((rd_T106 x3_1 (ji12)).f2) ++ ((rd_T106 l0 x9_1).f2))]) (j := 4) hcl25 hcc25 (show 5 ≤ 9 from by decide) (x' := (⟨(⟨(rd_T106 x3_1 (ji12)).f0.f0, (rd_T106 x3_1 (ji12)).f0.f1, (rd_T106 x3_1 (ji12)).f0.f2⟩ : S84), (rd_T106 x3_1 (ji12)).f1, ((rd_T106 x3_1 (ji12)).f2) ++ ((rd_T106 l0 x9_1).f2), (rd_T106 x3_1 (ji12)).f3, (rd_T106 x3_1 (ji12)).f4, (rd_T106 x3_1 (ji12)).f5, (rd_T106 x3_1 (ji12)).f6⟩ : S106)) (k106_mkM _ _ _ (⟨(⟨(rd_T106 x3_1 (ji12)).f0.f0, (rd_T106 x3_1 (ji12)).f0.f1, (rd_T106 x3_1 (ji12)).f0.f2⟩ : S84), (rd_T106 x3_1 (ji12)).f1, ((rd_T106 x3_1 (ji12)).f2) ++ ((rd_T106 l0 x9_1).f2), (rd_T106 x3_1 (ji12)).f3, (rd_T106 x3_1 (ji12)).f4, (rd_T106 x3_1 (ji12)).f5, (rd_T106 x3_1 (ji12)).f6⟩ : S106) ) (fun _ hk => hk)).1
             rw [← Ny120.out] at HP25
             have HQ25 := Aside0.mk HP25
             clear hcl25 hcc25 hfr25 hM25 HP25
             refine start_ (n := 12) (S := fun w' => w'.cell? ⟨gb115, 0, none⟩ = some (.string ((rd_T106 l0 x9_1).f0.f0)) ∧ w'.cell? ⟨gb115, 1, none⟩ = some (.string ((rd_T106 l0 x9_1).f0.f1)) ∧ w'.cell? ⟨gb115, 2, none⟩ = some (.string ((rd_T106 l0 x9_1).f0.f2)) ∧ w'.cell? ⟨gb115, 3, none⟩ = some (.bool ((rd_T106 l0 x9_1).f1)) ∧ w'.cell? ⟨gb115, 4, none⟩ = some (.string ((rd_T106 l0 x9_1).f2)) ∧ w'.cell? ⟨gb115, 5, none⟩ = some (.string ((rd_T106 l0 x9_1).f3)) ∧ w'.cell? ⟨gb115, 6, none⟩ = some (.string ((rd_T106 l0 x9_1).f4)) ∧ w'.cell? ⟨gb115, 7, none⟩ = some (.string ((rd_T106 l0 x9_1).f5)) ∧ w'.cell? ⟨gb115, 8, none⟩ = some (.bool ((rd_T106 l0 x9_1).f6)) ∧ w'.cell? ⟨go18, ((ji12)).toNat * 9, none⟩ = some (.string ((rd_T106 x3_1 (ji12)).f0.f0)) ∧ w'.cell? ⟨go18, ((ji12)).toNat * 9 + 1, none⟩ = some (.string ((rd_T106 x3_1 (ji12)).f0.f1)) ∧ w'.cell? ⟨go18, ((ji12)).toNat * 9 + 2, none⟩ = some (.string ((rd_T106 x3_1 (ji12)).f0.f2)) ∧ w'.cell? ⟨go18, ((ji12)).toNat * 9 + 3, none⟩ = some (.bool ((rd_T106 x3_1 (ji12)).f1)) ∧ w'.cell? ⟨go18, ((ji12)).toNat * 9 + 4, none⟩ = some (.string ((rd_T106 x3_1 (ji12)).f2)) ∧ w'.cell? ⟨go18, ((ji12)).toNat * 9 + 5, none⟩ = some (.string ((rd_T106 x3_1 (ji12)).f3)) ∧ w'.cell? ⟨go18, ((ji12)).toNat * 9 + 6, none⟩ = some (.string ((rd_T106 x3_1 (ji12)).f4)) ∧ w'.cell? ⟨go18, ((ji12)).toNat * 9 + 7, none⟩ = some (.string ((rd_T106 x3_1 (ji12)).f5)) ∧ w'.cell? ⟨go18, ((ji12)).toNat * 9 + 8, none⟩ = some (.bool ((rd_T106 x3_1 (ji12)).f6))) (ds := [11]) #[false, false, false, false, false, false, false, false, false, false, false, false] (by kernel_rfl) rfl rfl ⟨(blk_cell BK115.out 0).trans rfl, (blk_cell BK115.out 1).trans rfl, (blk_cell BK115.out 2).trans rfl, (blk_cell BK115.out 3).trans rfl, (blk_cell BK115.out 4).trans rfl, (blk_cell BK115.out 5).trans rfl, (blk_cell BK115.out 6).trans rfl, (blk_cell BK115.out 7).trans rfl, (blk_cell BK115.out 8).trans rfl, hx119_0, hx119_1, hx119_2, hx119_3, hx119_4, hx119_5, hx119_6, hx119_7, hx119_8⟩ (fun hHeld => ?_); refine with_tabW doc_Of.tab9 doc_Of.bits9 (fun HT_ HW_ => ?_)
             generalize w23.drew = w24 at HO_3 BK115 HB GG18 HQ25 hf18_0 hf18_1 hf18_2 hf18_3 hf18_4 hf18_5 hf18_6 hf18_7 hf18_8 hx117_0 hx117_1 hx117_2 hx117_3 hx117_4 hx117_5 hx117_6 hx117_7 hx117_8 hx119_0 hx119_1 hx119_2 hx119_3 hx119_4 hx119_5 hx119_6 hx119_7 hx119_8 hx18_0 hx18_1 hx18_2 hx18_3 hx18_4 hx18_5 hx18_6 hx18_7 hx18_8 hHeld ⊢
             refine pure_ (i := 0) (N := some 38) (v := ?_) (a' := ?_) #[true, false, false, false, false, false, false, false, false, false, false, false] rfl rfl (any_of HT_.out (by kernel_rfl)) (fun _ _ _ h => h) (Or.inl ⟨by rfl, ?_⟩) ?_ ?_
             rotate_left
             ·intro w'
              go_simp
              with_reducible rfl
             rotate_left
             ·simp only [Act.put, List.setIfInBounds_toArray, List.set_cons_zero, List.set_cons_succ, i64_w, i32_w]
              rfl
             refine pure_ (i := 1) (N := some 39) (v := ?_) (a' := ?_) #[true, true, false, false, false, false, false, false, false, false, false, false] rfl rfl (any_of HT_.out (by kernel_rfl)) (fun _ _ _ h => h) (Or.inl ⟨by rfl, ?_⟩) ?_ ?_
             rotate_left
             ·intro w'
              go_simp
              with_reducible rfl
             rotate_left
             ·simp only [Act.put, List.setIfInBounds_toArray, List.set_cons_zero, List.set_cons_succ, i64_w, i32_w]
              rfl
             refine pure_ (i := 2) (N := some 40) (v := ?_) (a' := ?_) #[true, true, true, false, false, false, false, false, false, false, false, false] rfl rfl (any_of HT_.out (by kernel_rfl)) (fun _ _ _ h => h) (Or.inl ⟨by rfl, ?_⟩) ?_ ?_
             rotate_left
             ·intro w'
              go_simp
              with_reducible rfl
             rotate_left
             ·simp only [Act.put, List.setIfInBounds_toArray, List.set_cons_zero, List.set_cons_succ, i64_w, i32_w]
              rfl
             refine pure_ (i := 3) (N := some 41) (v := ?_) (a' := ?_) #[true, true, true, true, false, false, false, false, false, false, false, false] rfl rfl (any_of HT_.out (by kernel_rfl)) (fun _ _ _ h => h) (Or.inl ⟨by rfl, ?_⟩) ?_ ?_
             rotate_left
             ·intro w'
              go_simp
              with_reducible rfl
             rotate_left
             ·simp only [Act.put, List.setIfInBounds_toArray, List.set_cons_zero, List.set_cons_succ, i64_w, i32_w]
              rfl
             refine pure_ (i := 4) (N := some 42) (v := ?_) (a' := ?_) #[true, true, true, true, true, false, false, false, false, false, false, false] rfl rfl (any_of HT_.out (by kernel_rfl)) (fun _ _ _ h => h) (Or.inl ⟨by rfl, ?_⟩) ?_ ?_
             rotate_left
             ·intro w'
              go_simp
              with_reducible rfl
             rotate_left
             ·simp only [Act.put, List.setIfInBounds_toArray, List.set_cons_zero, List.set_cons_succ, i64_w, i32_w]
              rfl
             refine pure_ (i := 6) (N := some 44) (v := ?_) (a' := ?_) #[true, true, true, true, true, false, true, false, false, false, false, false] rfl rfl (any_of HT_.out (by kernel_rfl)) (fun _ _ _ h => h) (Or.inl ⟨by rfl, ?_⟩) ?_ ?_
             rotate_left
             ·intro w'
              go_simp
              with_reducible rfl
             rotate_left
             ·simp only [Act.put, List.setIfInBounds_toArray, List.set_cons_zero, List.set_cons_succ, i64_w, i32_w]
              rfl
             refine take_ (i := 5) (N := some 43) (v := ?_) (a' := ?_) #[true, true, true, true, true, true, true, false, false, false, false, false] rfl rfl (take_ofW HT_.out HW_.out (by kernel_rfl)) (fun _ _ _ h => h) (Or.inl ⟨by rfl, ?_⟩) hHeld ?_ ?_
             rotate_left
             ·rintro w' ⟨s0, s1, s2, s3, s4, s5, s6, s7, s8, s9, s10, s11, s12, s13, s14, s15, s16, s17⟩
              go_simp
              with_reducible rfl
             rotate_left
             ·simp only [Act.put, List.setIfInBounds_toArray, List.set_cons_zero, List.set_cons_succ, i64_w, i32_w]
              rfl
             refine take_ (i := 7) (N := some 45) (v := ?_) (a' := ?_) #[true, true, true, true, true, true, true, true, false, false, false, false] rfl rfl (take_ofW HT_.out HW_.out (by kernel_rfl)) (fun _ _ _ h => h) (Or.inl ⟨by rfl, ?_⟩) hHeld ?_ ?_
             rotate_left
             ·rintro w' ⟨s0, s1, s2, s3, s4, s5, s6, s7, s8, s9, s10, s11, s12, s13, s14, s15, s16, s17⟩
              go_simp
              with_reducible rfl
             rotate_left
             ·simp only [Act.put, List.setIfInBounds_toArray, List.set_cons_zero, List.set_cons_succ, i64_w, i32_w]
              rfl
             refine pure_ (i := 8) (N := some 46) (v := ?_) (a' := ?_) #[true, true, true, true, true, true, true, true, true, false, false, false] rfl rfl (any_of HT_.out (by kernel_rfl)) (fun _ _ _ h => h) (Or.inl ⟨by rfl, ?_⟩) ?_ ?_
             rotate_left
             ·intro w'
              go_simp
              with_reducible rfl
             rotate_left
             ·simp only [Act.put, List.setIfInBounds_toArray, List.set_cons_zero, List.set_cons_succ, i64_w, i32_w]
              rfl
             refine pure_ (i := 9) (N := some 47) (v := ?_) (a' := ?_) #[true, true, true, true, true, true, true, true, true, true, false, false] rfl rfl (any_of HT_.out (by kernel_rfl)) (fun _ _ _ h => h) (Or.inl ⟨by rfl, ?_⟩) ?_ ?_
             rotate_left
             ·intro w'
              go_simp
              with_reducible rfl
             rotate_left
             ·simp only [Act.put, List.setIfInBounds_toArray, List.set_cons_zero, List.set_cons_succ, i64_w, i32_w]
              rfl
             refine pure_ (i := 10) (N := some 48) (v := ?_) (a' := ?_) #[true, true, true, true, true, true, true, true, true, true, true, false] rfl rfl (any_of HT_.out (by kernel_rfl)) (fun _ _ _ h => h) (Or.inl ⟨by rfl, ?_⟩) ?_ ?_
             rotate_left
             ·intro w'
              go_simp
              with_reducible rfl
             rotate_left
             ·simp only [Act.put, List.setIfInBounds_toArray, List.set_cons_zero, List.set_cons_succ, i64_w, i32_w]
              rfl
             refine last_ (i := 11) (N := none) #[true, true, true, true, true, true, true, true, true, true, true, true] rfl rfl (one_of HT_.out (by kernel_rfl)) (by decide) (fun K hK => ?_)
             refine skip_ (w1 := ?_) (by rfl) rfl ?_ ?_
             rotate_left
             ·go_simp
              rfl
             refine hK.out _ _ ?_
             clear hK K
             refine done_ (done_of HT_.out (by kernel_rfl)) ?_
             try go_wp2
             go_roundg k1
             case measure => have := HK1.out; omega
             case rel => exact ⟨(y120), (wrap64 (x9_1 + 1)), (by first | rfl | (simp; done) | (simp [*]; done)), H', ⟨by have := HK1.out; omega⟩, ⟨by (with_reducible repeat (first | apply Kd.R_alloc | apply Kd.R_drewN | apply Kd.R_drew)); exact Kd.R_mono HQ25.out (fun _ hk => trivial)⟩, ⟨by repeat (first | (with_reducible first | exact HB.out | apply below_alloc | apply pw_below_drewN | apply below_drew1 | refine below_set ?_ GB18.out | refine below_set ?_ GE115.out) | exact HB.out)⟩⟩
            ·rw [if_neg c17] at H
             exact absurd H (by simp)
           ·replace c16 := Bool.eq_false_iff.mpr c16
            subst c16
            have H1 : (if x3_1.length < 1099511627776 then (doc_Of.l0 k1 (x3_1 ++ [(⟨(⟨(rd_T106 l0 x9_1).f0.f0, (rd_T106 l0 x9_1).f0.f1, (rd_T106 l0 x9_1).f0.f2⟩ : S84), (rd_T106 l0 x9_1).f1, (rd_T106 l0 x9_1).f2, (rd_T106 l0 x9_1).f3, (rd_T106 l0 x9_1).f4, (rd_T106 l0 x9_1).f5, (rd_T106 l0 x9_1).f6⟩ : S106)]) l0 (l0.length : Int) (wrap64 (x9_1 + 1))) else (none)) = some r := by rw [if_neg (show ¬ (false = true) by decide)] at H; exact H
            clear H
            have H := H1
            clear H1
            by_cases c26 : x3_1.length < 1099511627776
            ·rw [if_pos c26] at H
             have LMc26 := Aside0.mk c26
             clear c26
             obtain ⟨y121, hy121⟩ : ∃ y_ : List (S106), y_ = (x3_1 ++ [(⟨(⟨(rd_T106 l0 x9_1).f0.f0, (rd_T106 l0 x9_1).f0.f1, (rd_T106 l0 x9_1).f0.f2⟩ : S84), (rd_T106 l0 x9_1).f1, (rd_T106 l0 x9_1).f2, (rd_T106 l0 x9_1).f3, (rd_T106 l0 x9_1).f4, (rd_T106 l0 x9_1).f5, (rd_T106 l0 x9_1).f6⟩ : S106)]) := ⟨_, rfl⟩
             replace H : (doc_Of.l0 k1 y121 l0 (l0.length : Int) (wrap64 (x9_1 + 1))) = some r := by first | (rw [hy121]; with_reducible exact H) | (have H2_ := (Option.bind_some _ _).symm.trans H; rw [hy121]; with_reducible exact H2_) | (have H2_ := (Option.bind_some _ _).symm.trans H; with_reducible exact H2_) | with_reducible exact H | (rw [hy121]; exact H) | exact H
             have Ny121 := Aside0.mk hy121
             clear hy121
             have H' := Aside0.mk H
             clear H
             have p114 : 0 ≤ (x9_1 : Int) := of_decide_eq_true (by first | (with_reducible assumption) | assumption)
             have q114 : x9_1 < (l0.length : Int) := of_decide_eq_true (by first | (with_reducible assumption) | assumption)
             obtain ⟨ad114, e114, hx114_0, hx114_1, hx114_2, hx114_3, hx114_4, hx114_5, hx114_6, hx114_7, hx114_8⟩ := at_T106 HR0.out x9_1 p114 q114
             cases e114
             replace hx114_0 := (HB.out.cell (World.block_lt_of_cell? w _ hx114_0)).trans hx114_0
             replace hx114_1 := (HB.out.cell (World.block_lt_of_cell? w _ hx114_1)).trans hx114_1
             replace hx114_2 := (HB.out.cell (World.block_lt_of_cell? w _ hx114_2)).trans hx114_2
             replace hx114_3 := (HB.out.cell (World.block_lt_of_cell? w _ hx114_3)).trans hx114_3
             replace hx114_4 := (HB.out.cell (World.block_lt_of_cell? w _ hx114_4)).trans hx114_4
             replace hx114_5 := (HB.out.cell (World.block_lt_of_cell? w _ hx114_5)).trans hx114_5
             replace hx114_6 := (HB.out.cell (World.block_lt_of_cell? w _ hx114_6)).trans hx114_6
             replace hx114_7 := (HB.out.cell (World.block_lt_of_cell? w _ hx114_7)).trans hx114_7
             replace hx114_8 := (HB.out.cell (World.block_lt_of_cell? w _ hx114_8)).trans hx114_8
             replace p114 := eq_true p114
             replace q114 := eq_true q114
             go_wp2_with (first | ((with_reducible refine gate_dst (N := 5) rfl ?_); refine box_event ?hg (N := 5) ?hd (cs := #[.string (⟨#[]⟩ : ByteArray), .string (⟨#[]⟩ : ByteArray), .string (⟨#[]⟩ : ByteArray), .bool false, .string (⟨#[]⟩ : ByteArray), .string (⟨#[]⟩ : ByteArray), .string (⟨#[]⟩ : ByteArray), .string (⟨#[]⟩ : ByteArray), .bool false]) (t := 106) ?hr ?_; (case hd => rfl); (case hg => rfl); (case hr => first | (go_simp; done) | (go_simp; rfl)); intro gb115 hg w27 hbox hb; have n0_ := Aside0.mk (Kd.R_below (Kd.R_elderB (by (with_reducible repeat (first | apply Kd.R_alloc | apply Kd.R_drewN | apply Kd.R_drew)); exact HO_3.out) gb115 (Nat.le_of_eq hg.symm)) hb); have n1_ := Aside0.mk (below_step (by repeat (first | (with_reducible first | exact HB.out | apply below_alloc | apply pw_below_drewN | apply below_drew1) | exact HB.out)) hb); have n2_ := Aside0.mk (hbox); have n3_ := Aside0.mk ((by rw [hg]; exact (below_size (by repeat (first | (with_reducible first | exact HB.out | apply below_alloc | apply pw_below_drewN | apply below_drew1) | exact HB.out))) : w.heap.size ≤ gb115)); have n4_ := Aside0.mk ((by rw [hg]; exact (below_size (by repeat (first | (with_reducible first | exact HB.out | apply below_alloc | apply pw_below_drewN | apply below_drew1) | exact HB.out))) : w.heap.size ≤ gb115)); clear HO_3; clear HB; have HO_3 := n0_; have HB := n1_; have BK115 := n2_; have GW115 := n3_; have GE115 := n4_; clear n0_ n1_ n2_ n3_ n4_; clear hb hbox hg; have hcz28_0 : w27.cell? ⟨gb115, 0, none⟩ = some (.string (⟨#[]⟩ : ByteArray)) := (blk_cell BK115.out 0).trans rfl; have hcz28_1 : w27.cell? ⟨gb115, 1, none⟩ = some (.string (⟨#[]⟩ : ByteArray)) := (blk_cell BK115.out 1).trans rfl; have hcz28_2 : w27.cell? ⟨gb115, 2, none⟩ = some (.string (⟨#[]⟩ : ByteArray)) := (blk_cell BK115.out 2).trans rfl; have hcz28_3 : w27.cell? ⟨gb115, 3, none⟩ = some (.bool false) := (blk_cell BK115.out 3).trans rfl; have hcz28_4 : w27.cell? ⟨gb115, 4, none⟩ = some (.string (⟨#[]⟩ : ByteArray)) := (blk_cell BK115.out 4).trans rfl; have hcz28_5 : w27.cell? ⟨gb115, 5, none⟩ = some (.string (⟨#[]⟩ : ByteArray)) := (blk_cell BK115.out 5).trans rfl; have hcz28_6 : w27.cell? ⟨gb115, 6, none⟩ = some (.string (⟨#[]⟩ : ByteArray)) := (blk_cell BK115.out 6).trans rfl; have hcz28_7 : w27.cell? ⟨gb115, 7, none⟩ = some (.string (⟨#[]⟩ : ByteArray)) := (blk_cell BK115.out 7).trans rfl; have hcz28_8 : w27.cell? ⟨gb115, 8, none⟩ = some (.bool false) := (blk_cell BK115.out 8).trans rfl; have hfz28_0 := blk_frozen BK115.out 0; have hfz28_1 := blk_frozen BK115.out 1; have hfz28_2 := blk_frozen BK115.out 2; have hfz28_3 := blk_frozen BK115.out 3; have hfz28_4 := blk_frozen BK115.out 4; have hfz28_5 := blk_frozen BK115.out 5; have hfz28_6 := blk_frozen BK115.out 6; have hfz28_7 := blk_frozen BK115.out 7; have hfz28_8 := blk_frozen BK115.out 8; obtain ⟨Ao29, co29, eo29⟩ := Kd.R_slice HO_3.out; subst eo29) | ((with_reducible refine gate_callee (f := 75) rfl ?_); refine goesL_ (some 25) rfl rfl Try.func75 (by kernel_rfl) rfl #[.agg #[.string ((rd_T106 l0 x9_1).f0.f0), .string ((rd_T106 l0 x9_1).f0.f1), .string ((rd_T106 l0 x9_1).f0.f2), .bool ((rd_T106 l0 x9_1).f1), .string ((rd_T106 l0 x9_1).f2), .string ((rd_T106 l0 x9_1).f3), .string ((rd_T106 l0 x9_1).f4), .string ((rd_T106 l0 x9_1).f5), .bool ((rd_T106 l0 x9_1).f6)]] rfl (by (try simp only [List.map_toArray, List.map_cons, List.map_nil]); first | done | rfl | (simp only [List.length_drop, List.length_take]; rfl)) ?_; (with_reducible refine (doc_Part_isText.calls ((rd_T106 l0 x9_1).f0.f0) ((rd_T106 l0 x9_1).f0.f1) ((rd_T106 l0 x9_1).f0.f2) ((rd_T106 l0 x9_1).f1) ((rd_T106 l0 x9_1).f2) ((rd_T106 l0 x9_1).f3) ((rd_T106 l0 x9_1).f4) ((rd_T106 l0 x9_1).f5) ((rd_T106 l0 x9_1).f6) true _ A9.out).mono ?_); rintro e w30 ⟨rfl, hb⟩; refine ⟨_, rfl, ?_⟩; have n0_ := Aside0.mk (Kd.R_below (by (with_reducible repeat (first | apply Kd.R_alloc | apply Kd.R_drewN | apply Kd.R_drew)); exact (Kd.R_mono (Kd.R_far (p := ⟨gb115, 8, none⟩) (Kd.R_far (p := ⟨gb115, 7, none⟩) (Kd.R_far (p := ⟨gb115, 6, none⟩) (Kd.R_far (p := ⟨gb115, 5, none⟩) (Kd.R_far (p := ⟨gb115, 4, none⟩) (Kd.R_far (p := ⟨gb115, 3, none⟩) (Kd.R_far (p := ⟨gb115, 2, none⟩) (Kd.R_far (p := ⟨gb115, 1, none⟩) (Kd.R_far (p := ⟨gb115, 0, none⟩) (Kd.R_mono HO_3.out (fun k_ hk => (⟨hk, hk.2⟩ : _ ∧ k_ ≠ gb115))) (fun _ hk => hk.2) (.string ((rd_T106 l0 x9_1).f0.f0))) (fun _ hk => hk.2) (.string ((rd_T106 l0 x9_1).f0.f1))) (fun _ hk => hk.2) (.string ((rd_T106 l0 x9_1).f0.f2))) (fun _ hk => hk.2) (.bool ((rd_T106 l0 x9_1).f1))) (fun _ hk => hk.2) (.string ((rd_T106 l0 x9_1).f2))) (fun _ hk => hk.2) (.string ((rd_T106 l0 x9_1).f3))) (fun _ hk => hk.2) (.string ((rd_T106 l0 x9_1).f4))) (fun _ hk => hk.2) (.string ((rd_T106 l0 x9_1).f5))) (fun _ hk => hk.2) (.bool ((rd_T106 l0 x9_1).f6))) (fun _ h_ => h_.1))) hb); have n1_ := Aside0.mk (blk_below (g := gb115) (o := .cells #[.string ((rd_T106 l0 x9_1).f0.f0), .string ((rd_T106 l0 x9_1).f0.f1), .string ((rd_T106 l0 x9_1).f0.f2), .bool ((rd_T106 l0 x9_1).f1), .string ((rd_T106 l0 x9_1).f2), .string ((rd_T106 l0 x9_1).f3), .string ((rd_T106 l0 x9_1).f4), .string ((rd_T106 l0 x9_1).f5), .bool ((rd_T106 l0 x9_1).f6)] 106 (0, 0)) (by (with_reducible repeat (first | refine blk_drewN ?_ _ | refine blk_drew ?_ | refine blk_alloc ?_ _)); refine blk_put (cs := #[.string ((rd_T106 l0 x9_1).f0.f0), .string ((rd_T106 l0 x9_1).f0.f1), .string ((rd_T106 l0 x9_1).f0.f2), .bool ((rd_T106 l0 x9_1).f1), .string ((rd_T106 l0 x9_1).f2), .string ((rd_T106 l0 x9_1).f3), .string ((rd_T106 l0 x9_1).f4), .string ((rd_T106 l0 x9_1).f5), .bool false]) ?_ 8 _ rfl; (with_reducible repeat (first | refine blk_drewN ?_ _ | refine blk_drew ?_ | refine blk_alloc ?_ _)); refine blk_put (cs := #[.string ((rd_T106 l0 x9_1).f0.f0), .string ((rd_T106 l0 x9_1).f0.f1), .string ((rd_T106 l0 x9_1).f0.f2), .bool ((rd_T106 l0 x9_1).f1), .string ((rd_T106 l0 x9_1).f2), .string ((rd_T106 l0 x9_1).f3), .string ((rd_T106 l0 x9_1).f4), .string (⟨#[]⟩ : ByteArray), .bool false]) ?_ 7 _ rfl; (with_reducible repeat (first | refine blk_drewN ?_ _ | refine blk_drew ?_ | refine blk_alloc ?_ _)); refine blk_put (cs := #[.string ((rd_T106 l0 x9_1).f0.f0), .string ((rd_T106 l0 x9_1).f0.f1), .string ((rd_T106 l0 x9_1).f0.f2), .bool ((rd_T106 l0 x9_1).f1), .string ((rd_T106 l0 x9_1).f2), .string ((rd_T106 l0 x9_1).f3), .string (⟨#[]⟩ : ByteArray), .string (⟨#[]⟩ : ByteArray), .bool false]) ?_ 6 _ rfl; (with_reducible repeat (first | refine blk_drewN ?_ _ | refine blk_drew ?_ | refine blk_alloc ?_ _)); refine blk_put (cs := #[.string ((rd_T106 l0 x9_1).f0.f0), .string ((rd_T106 l0 x9_1).f0.f1), .string ((rd_T106 l0 x9_1).f0.f2), .bool ((rd_T106 l0 x9_1).f1), .string ((rd_T106 l0 x9_1).f2), .string (⟨#[]⟩ : ByteArray), .string (⟨#[]⟩ : ByteArray), .string (⟨#[]⟩ : ByteArray), .bool false]) ?_ 5 _ rfl; (with_reducible repeat (first | refine blk_drewN ?_ _ | refine blk_drew ?_ | refine blk_alloc ?_ _)); refine blk_put (cs := #[.string ((rd_T106 l0 x9_1).f0.f0), .string ((rd_T106 l0 x9_1).f0.f1), .string ((rd_T106 l0 x9_1).f0.f2), .bool ((rd_T106 l0 x9_1).f1), .string (⟨#[]⟩ : ByteArray), .string (⟨#[]⟩ : ByteArray), .string (⟨#[]⟩ : ByteArray), .string (⟨#[]⟩ : ByteArray), .bool false]) ?_ 4 _ rfl; (with_reducible repeat (first | refine blk_drewN ?_ _ | refine blk_drew ?_ | refine blk_alloc ?_ _)); refine blk_put (cs := #[.string ((rd_T106 l0 x9_1).f0.f0), .string ((rd_T106 l0 x9_1).f0.f1), .string ((rd_T106 l0 x9_1).f0.f2), .bool false, .string (⟨#[]⟩ : ByteArray), .string (⟨#[]⟩ : ByteArray), .string (⟨#[]⟩ : ByteArray), .string (⟨#[]⟩ : ByteArray), .bool false]) ?_ 3 _ rfl; (with_reducible repeat (first | refine blk_drewN ?_ _ | refine blk_drew ?_ | refine blk_alloc ?_ _)); refine blk_put (cs := #[.string ((rd_T106 l0 x9_1).f0.f0), .string ((rd_T106 l0 x9_1).f0.f1), .string (⟨#[]⟩ : ByteArray), .bool false, .string (⟨#[]⟩ : ByteArray), .string (⟨#[]⟩ : ByteArray), .string (⟨#[]⟩ : ByteArray), .string (⟨#[]⟩ : ByteArray), .bool false]) ?_ 2 _ rfl; (with_reducible repeat (first | refine blk_drewN ?_ _ | refine blk_drew ?_ | refine blk_alloc ?_ _)); refine blk_put (cs := #[.string ((rd_T106 l0 x9_1).f0.f0), .string (⟨#[]⟩ : ByteArray), .string (⟨#[]⟩ : ByteArray), .bool false, .string (⟨#[]⟩ : ByteArray), .string (⟨#[]⟩ : ByteArray), .string (⟨#[]⟩ : ByteArray), .string (⟨#[]⟩ : ByteArray), .bool false]) ?_ 1 _ rfl; (with_reducible repeat (first | refine blk_drewN ?_ _ | refine blk_drew ?_ | refine blk_alloc ?_ _)); refine blk_put (cs := #[.string (⟨#[]⟩ : ByteArray), .string (⟨#[]⟩ : ByteArray), .string (⟨#[]⟩ : ByteArray), .bool false, .string (⟨#[]⟩ : ByteArray), .string (⟨#[]⟩ : ByteArray), .string (⟨#[]⟩ : ByteArray), .string (⟨#[]⟩ : ByteArray), .bool false]) ?_ 0 _ rfl; (with_reducible repeat (first | refine blk_drewN ?_ _ | refine blk_drew ?_ | refine blk_alloc ?_ _)); exact BK115.out) hb); have n2_ := Aside0.mk (below_step (by repeat (first | (with_reducible first | exact HB.out | apply below_alloc | apply pw_below_drewN | apply below_drew1 | refine below_set ?_ GE115.out) | exact HB.out)) hb); clear HO_3; clear BK115; clear HB; have HO_3 := n0_; have BK115 := n1_; have HB := n2_; clear n0_ n1_ n2_; (try clear hb); (try clear hb2); (try clear hk); (try clear hi); have p117 : 0 ≤ ((ji12) : Int) := of_decide_eq_true (by first | (with_reducible assumption) | assumption); have q117 : (ji12) < (x3_1.length : Int) := of_decide_eq_true (by first | (with_reducible assumption) | assumption); obtain ⟨ad117, e117, hx117_0, hx117_1, hx117_2, hx117_3, hx117_4, hx117_5, hx117_6, hx117_7, hx117_8⟩ := at_T106 (Kd.R_reads' HO_3.out).2.2 (ji12) p117 q117; cases e117; replace p117 := eq_true p117; replace q117 := eq_true q117) | (go_at_call 75; (with_reducible refine (doc_Part_isText.calls ((rd_T106 x3_1 (ji12)).f0.f0) ((rd_T106 x3_1 (ji12)).f0.f1) ((rd_T106 x3_1 (ji12)).f0.f2) ((rd_T106 x3_1 (ji12)).f1) ((rd_T106 x3_1 (ji12)).f2) ((rd_T106 x3_1 (ji12)).f3) ((rd_T106 x3_1 (ji12)).f4) ((rd_T106 x3_1 (ji12)).f5) ((rd_T106 x3_1 (ji12)).f6) false _ A15.out).mono ?_); rintro e w31 ⟨rfl, hb⟩; have n0_ := Aside0.mk (Kd.R_below (by (with_reducible repeat (first | apply Kd.R_alloc | apply Kd.R_drewN | apply Kd.R_drew)); exact HO_3.out) hb); have n1_ := Aside0.mk (blk_below (g := gb115) (o := .cells #[.string ((rd_T106 l0 x9_1).f0.f0), .string ((rd_T106 l0 x9_1).f0.f1), .string ((rd_T106 l0 x9_1).f0.f2), .bool ((rd_T106 l0 x9_1).f1), .string ((rd_T106 l0 x9_1).f2), .string ((rd_T106 l0 x9_1).f3), .string ((rd_T106 l0 x9_1).f4), .string ((rd_T106 l0 x9_1).f5), .bool ((rd_T106 l0 x9_1).f6)] 106 (0, 0)) (by (with_reducible repeat (first | refine blk_drewN ?_ _ | refine blk_drew ?_ | refine blk_alloc ?_ _)); exact BK115.out) hb); have n2_ := Aside0.mk (below_step (by repeat (first | (with_reducible first | exact HB.out | apply below_alloc | apply pw_below_drewN | apply below_drew1 | refine below_set ?_ GE115.out) | exact HB.out)) hb); clear HO_3; clear BK115; clear HB; have HO_3 := n0_; have BK115 := n1_; have HB := n2_; clear n0_ n1_ n2_; (try clear hb); (try clear hb2); (try clear hk); (try clear hi); have hcz32_0 : w31.cell? ⟨gb115, 0, none⟩ = some (.string ((rd_T106 l0 x9_1).f0.f0)) := (blk_cell BK115.out 0).trans rfl; have hcz32_1 : w31.cell? ⟨gb115, 1, none⟩ = some (.string ((rd_T106 l0 x9_1).f0.f1)) := (blk_cell BK115.out 1).trans rfl; have hcz32_2 : w31.cell? ⟨gb115, 2, none⟩ = some (.string ((rd_T106 l0 x9_1).f0.f2)) := (blk_cell BK115.out 2).trans rfl; have hcz32_3 : w31.cell? ⟨gb115, 3, none⟩ = some (.bool ((rd_T106 l0 x9_1).f1)) := (blk_cell BK115.out 3).trans rfl; have hcz32_4 : w31.cell? ⟨gb115, 4, none⟩ = some (.string ((rd_T106 l0 x9_1).f2)) := (blk_cell BK115.out 4).trans rfl; have hcz32_5 : w31.cell? ⟨gb115, 5, none⟩ = some (.string ((rd_T106 l0 x9_1).f3)) := (blk_cell BK115.out 5).trans rfl; have hcz32_6 : w31.cell? ⟨gb115, 6, none⟩ = some (.string ((rd_T106 l0 x9_1).f4)) := (blk_cell BK115.out 6).trans rfl; have hcz32_7 : w31.cell? ⟨gb115, 7, none⟩ = some (.string ((rd_T106 l0 x9_1).f5)) := (blk_cell BK115.out 7).trans rfl; have hcz32_8 : w31.cell? ⟨gb115, 8, none⟩ = some (.bool ((rd_T106 l0 x9_1).f6)) := (blk_cell BK115.out 8).trans rfl; have hfz32_0 := blk_frozen BK115.out 0; have hfz32_1 := blk_frozen BK115.out 1; have hfz32_2 := blk_frozen BK115.out 2; have hfz32_3 := blk_frozen BK115.out 3; have hfz32_4 := blk_frozen BK115.out 4; have hfz32_5 := blk_frozen BK115.out 5; have hfz32_6 := blk_frozen BK115.out 6; have hfz32_7 := blk_frozen BK115.out 7; have hfz32_8 := blk_frozen BK115.out 8) | ((with_reducible refine gate_builtin (b := .append) (xs := #[.tmp 15, .tmp 17]) rfl ?_); at_builtin; refine Kd.R_append k106 (w0 := w) w.heap.size rfl (.tmp 15) (.tmp 17) 29 106 (.agg #[(.string ⟨#[]⟩), (.string ⟨#[]⟩), (.string ⟨#[]⟩), (.bool false), (.string ⟨#[]⟩), (.string ⟨#[]⟩), (.string ⟨#[]⟩), (.string ⟨#[]⟩), (.bool false)]) 128 rfl Try.underlying29 info106 rfl (by decide) (by omega) (.slice (some ad117) x3_1.length co29) x3_1 (⟨(⟨(rd_T106 l0 x9_1).f0.f0, (rd_T106 l0 x9_1).f0.f1, (rd_T106 l0 x9_1).f0.f2⟩ : S84), (rd_T106 l0 x9_1).f1, (rd_T106 l0 x9_1).f2, (rd_T106 l0 x9_1).f3, (rd_T106 l0 x9_1).f4, (rd_T106 l0 x9_1).f5, (rd_T106 l0 x9_1).f6⟩ : S106) [.string ((rd_T106 l0 x9_1).f0.f0), .string ((rd_T106 l0 x9_1).f0.f1), .string ((rd_T106 l0 x9_1).f0.f2), .bool ((rd_T106 l0 x9_1).f1), .string ((rd_T106 l0 x9_1).f2), .string ((rd_T106 l0 x9_1).f3), .string ((rd_T106 l0 x9_1).f4), .string ((rd_T106 l0 x9_1).f5), .bool ((rd_T106 l0 x9_1).f6)] (fun k_ => k_ ≠ gb115) (fun _ => False) rfl rfl ?aP (fun _ hk => hk.elim) ?aF ?aO ?aB ?aS ?aL ?_; (case aP => exact k106_mkM _ _ _ (⟨(⟨(rd_T106 l0 x9_1).f0.f0, (rd_T106 l0 x9_1).f0.f1, (rd_T106 l0 x9_1).f0.f2⟩ : S84), (rd_T106 l0 x9_1).f1, (rd_T106 l0 x9_1).f2, (rd_T106 l0 x9_1).f3, (rd_T106 l0 x9_1).f4, (rd_T106 l0 x9_1).f5, (rd_T106 l0 x9_1).f6⟩ : S106)); (case aB => exact (by repeat (first | (with_reducible first | exact HB.out | apply below_alloc | apply pw_below_drewN | apply below_drew1 | refine below_set ?_ GE115.out) | exact HB.out))); (case aF => exact (fun k_ hk => Kd.freshB (g := gb115) (o := .cells #[.string ((rd_T106 l0 x9_1).f0.f0), .string ((rd_T106 l0 x9_1).f0.f1), .string ((rd_T106 l0 x9_1).f0.f2), .bool ((rd_T106 l0 x9_1).f1), .string ((rd_T106 l0 x9_1).f2), .string ((rd_T106 l0 x9_1).f3), .string ((rd_T106 l0 x9_1).f4), .string ((rd_T106 l0 x9_1).f5), .bool ((rd_T106 l0 x9_1).f6)] 106 (0, 0)) (by (with_reducible repeat (first | refine blk_drewN ?_ _ | refine blk_drew ?_ | refine blk_alloc ?_ _)); exact BK115.out) k_ hk)); (case aO => exact (by (with_reducible repeat (first | apply Kd.R_alloc | apply Kd.R_drewN | apply Kd.R_drew)); exact Kd.R_mono HO_3.out (fun _ hk => hk.2))); (case aS => exact (below_size (by repeat (first | (with_reducible first | exact HB.out | apply below_alloc | apply pw_below_drewN | apply below_drew1 | refine below_set ?_ GE115.out) | exact HB.out)))); (case aL => have := LMc26.out; omega); intro v122 w33 ho hb hg hat; rw [← Ny121.out] at ho; have n0_ := Aside0.mk (blk_grown (g := gb115) (o := .cells #[.string ((rd_T106 l0 x9_1).f0.f0), .string ((rd_T106 l0 x9_1).f0.f1), .string ((rd_T106 l0 x9_1).f0.f2), .bool ((rd_T106 l0 x9_1).f1), .string ((rd_T106 l0 x9_1).f2), .string ((rd_T106 l0 x9_1).f3), .string ((rd_T106 l0 x9_1).f4), .string ((rd_T106 l0 x9_1).f5), .bool ((rd_T106 l0 x9_1).f6)] 106 (0, 0)) (by (with_reducible repeat (first | refine blk_drewN ?_ _ | refine blk_drew ?_ | refine blk_alloc ?_ _)); exact BK115.out) hg (Kd.R_away HO_3.out (fun _ hk => hk.2))); have n1_ := Aside0.mk (hb); have n2_ := Aside0.mk (ho); clear BK115; clear HB; clear HO_3; have BK115 := n0_; have HB := n1_; have HO123 := n2_; clear n0_ n1_ n2_; clear ho hb hg hat))
             go_roundg k1
             case measure => have := HK1.out; omega
             case rel => exact ⟨(y121), (wrap64 (x9_1 + 1)), (by first | rfl | (simp; done) | (simp [*]; done)), H', ⟨by have := HK1.out; omega⟩, ⟨by (with_reducible repeat (first | apply Kd.R_alloc | apply Kd.R_drewN | apply Kd.R_drew)); exact Kd.R_mono HO123.out (fun _ hk => trivial)⟩, ⟨by repeat (first | (with_reducible first | exact HB.out | apply below_alloc | apply pw_below_drewN | apply below_drew1 | refine below_set ?_ GE115.out) | exact HB.out)⟩⟩
            ·rw [if_neg c26] at H
             exact absurd H (by simp)
          ·rw [if_neg c14] at H
           exact absurd H (by simp)
         ·rw [if_neg c13] at H
          exact absurd H (by simp)
        ·rw [if_neg c11] at H
         have c11b0 : decide (0 < (x3_1.length : Int)) = false := decide_eq_false c11
         have c11b1 : decide (0 < x3_1.length) = false := decide_eq_false (by omega)
         clear c11
         by_cases c34 : x3_1.length < 1099511627776
         ·rw [if_pos c34] at H
          have LMc34 := Aside0.mk c34
          clear c34
          obtain ⟨y124, hy124⟩ : ∃ y_ : List (S106), y_ = (x3_1 ++ [(⟨(⟨(rd_T106 l0 x9_1).f0.f0, (rd_T106 l0 x9_1).f0.f1, (rd_T106 l0 x9_1).f0.f2⟩ : S84), (rd_T106 l0 x9_1).f1, (rd_T106 l0 x9_1).f2, (rd_T106 l0 x9_1).f3, (rd_T106 l0 x9_1).f4, (rd_T106 l0 x9_1).f5, (rd_T106 l0 x9_1).f6⟩ : S106)]) := ⟨_, rfl⟩
          replace H : (doc_Of.l0 k1 y124 l0 (l0.length : Int) (wrap64 (x9_1 + 1))) = some r := by first | (rw [hy124]; with_reducible exact H) | (have H2_ := (Option.bind_some _ _).symm.trans H; rw [hy124]; with_reducible exact H2_) | (have H2_ := (Option.bind_some _ _).symm.trans H; with_reducible exact H2_) | with_reducible exact H | (rw [hy124]; exact H) | exact H
          have Ny124 := Aside0.mk hy124
          clear hy124
          have H' := Aside0.mk H
          clear H
          have p114 : 0 ≤ (x9_1 : Int) := of_decide_eq_true (by first | (with_reducible assumption) | assumption)
          have q114 : x9_1 < (l0.length : Int) := of_decide_eq_true (by first | (with_reducible assumption) | assumption)
          obtain ⟨ad114, e114, hx114_0, hx114_1, hx114_2, hx114_3, hx114_4, hx114_5, hx114_6, hx114_7, hx114_8⟩ := at_T106 HR0.out x9_1 p114 q114
          cases e114
          replace hx114_0 := (HB.out.cell (World.block_lt_of_cell? w _ hx114_0)).trans hx114_0
          replace hx114_1 := (HB.out.cell (World.block_lt_of_cell? w _ hx114_1)).trans hx114_1
          replace hx114_2 := (HB.out.cell (World.block_lt_of_cell? w _ hx114_2)).trans hx114_2
          replace hx114_3 := (HB.out.cell (World.block_lt_of_cell? w _ hx114_3)).trans hx114_3
          replace hx114_4 := (HB.out.cell (World.block_lt_of_cell? w _ hx114_4)).trans hx114_4
          replace hx114_5 := (HB.out.cell (World.block_lt_of_cell? w _ hx114_5)).trans hx114_5
          replace hx114_6 := (HB.out.cell (World.block_lt_of_cell? w _ hx114_6)).trans hx114_6
          replace hx114_7 := (HB.out.cell (World.block_lt_of_cell? w _ hx114_7)).trans hx114_7
          replace hx114_8 := (HB.out.cell (World.block_lt_of_cell? w _ hx114_8)).trans hx114_8
          replace p114 := eq_true p114
          replace q114 := eq_true q114
          go_wp2_with (first | ((with_reducible refine gate_dst (N := 5) rfl ?_); refine box_event ?hg (N := 5) ?hd (cs := #[.string (⟨#[]⟩ : ByteArray), .string (⟨#[]⟩ : ByteArray), .string (⟨#[]⟩ : ByteArray), .bool false, .string (⟨#[]⟩ : ByteArray), .string (⟨#[]⟩ : ByteArray), .string (⟨#[]⟩ : ByteArray), .string (⟨#[]⟩ : ByteArray), .bool false]) (t := 106) ?hr ?_; (case hd => rfl); (case hg => rfl); (case hr => first | (go_simp; done) | (go_simp; rfl)); intro gb115 hg w35 hbox hb; have n0_ := Aside0.mk (Kd.R_below (Kd.R_elderB (by (with_reducible repeat (first | apply Kd.R_alloc | apply Kd.R_drewN | apply Kd.R_drew)); exact HO_3.out) gb115 (Nat.le_of_eq hg.symm)) hb); have n1_ := Aside0.mk (below_step (by repeat (first | (with_reducible first | exact HB.out | apply below_alloc | apply pw_below_drewN | apply below_drew1) | exact HB.out)) hb); have n2_ := Aside0.mk (hbox); have n3_ := Aside0.mk ((by rw [hg]; exact (below_size (by repeat (first | (with_reducible first | exact HB.out | apply below_alloc | apply pw_below_drewN | apply below_drew1) | exact HB.out))) : w.heap.size ≤ gb115)); have n4_ := Aside0.mk ((by rw [hg]; exact (below_size (by repeat (first | (with_reducible first | exact HB.out | apply below_alloc | apply pw_below_drewN | apply below_drew1) | exact HB.out))) : w.heap.size ≤ gb115)); clear HO_3; clear HB; have HO_3 := n0_; have HB := n1_; have BK115 := n2_; have GW115 := n3_; have GE115 := n4_; clear n0_ n1_ n2_ n3_ n4_; clear hb hbox hg; have hcz36_0 : w35.cell? ⟨gb115, 0, none⟩ = some (.string (⟨#[]⟩ : ByteArray)) := (blk_cell BK115.out 0).trans rfl; have hcz36_1 : w35.cell? ⟨gb115, 1, none⟩ = some (.string (⟨#[]⟩ : ByteArray)) := (blk_cell BK115.out 1).trans rfl; have hcz36_2 : w35.cell? ⟨gb115, 2, none⟩ = some (.string (⟨#[]⟩ : ByteArray)) := (blk_cell BK115.out 2).trans rfl; have hcz36_3 : w35.cell? ⟨gb115, 3, none⟩ = some (.bool false) := (blk_cell BK115.out 3).trans rfl; have hcz36_4 : w35.cell? ⟨gb115, 4, none⟩ = some (.string (⟨#[]⟩ : ByteArray)) := (blk_cell BK115.out 4).trans rfl; have hcz36_5 : w35.cell? ⟨gb115, 5, none⟩ = some (.string (⟨#[]⟩ : ByteArray)) := (blk_cell BK115.out 5).trans rfl; have hcz36_6 : w35.cell? ⟨gb115, 6, none⟩ = some (.string (⟨#[]⟩ : ByteArray)) := (blk_cell BK115.out 6).trans rfl; have hcz36_7 : w35.cell? ⟨gb115, 7, none⟩ = some (.string (⟨#[]⟩ : ByteArray)) := (blk_cell BK115.out 7).trans rfl; have hcz36_8 : w35.cell? ⟨gb115, 8, none⟩ = some (.bool false) := (blk_cell BK115.out 8).trans rfl; have hfz36_0 := blk_frozen BK115.out 0; have hfz36_1 := blk_frozen BK115.out 1; have hfz36_2 := blk_frozen BK115.out 2; have hfz36_3 := blk_frozen BK115.out 3; have hfz36_4 := blk_frozen BK115.out 4; have hfz36_5 := blk_frozen BK115.out 5; have hfz36_6 := blk_frozen BK115.out 6; have hfz36_7 := blk_frozen BK115.out 7; have hfz36_8 := blk_frozen BK115.out 8; obtain ⟨Ao37, co37, eo37⟩ := Kd.R_slice HO_3.out; subst eo37) | ((with_reducible refine gate_callee (f := 75) rfl ?_); refine goesL_ (some 25) rfl rfl Try.func75 (by kernel_rfl) rfl #[.agg #[.string ((rd_T106 l0 x9_1).f0.f0), .string ((rd_T106 l0 x9_1).f0.f1), .string ((rd_T106 l0 x9_1).f0.f2), .bool ((rd_T106 l0 x9_1).f1), .string ((rd_T106 l0 x9_1).f2), .string ((rd_T106 l0 x9_1).f3), .string ((rd_T106 l0 x9_1).f4), .string ((rd_T106 l0 x9_1).f5), .bool ((rd_T106 l0 x9_1).f6)]] rfl (by (try simp only [List.map_toArray, List.map_cons, List.map_nil]); first | done | rfl | (simp only [List.length_drop, List.length_take]; rfl)) ?_; (with_reducible refine (doc_Part_isText.calls ((rd_T106 l0 x9_1).f0.f0) ((rd_T106 l0 x9_1).f0.f1) ((rd_T106 l0 x9_1).f0.f2) ((rd_T106 l0 x9_1).f1) ((rd_T106 l0 x9_1).f2) ((rd_T106 l0 x9_1).f3) ((rd_T106 l0 x9_1).f4) ((rd_T106 l0 x9_1).f5) ((rd_T106 l0 x9_1).f6) true _ A9.out).mono ?_); rintro e w38 ⟨rfl, hb⟩; refine ⟨_, rfl, ?_⟩; have n0_ := Aside0.mk (Kd.R_below (by (with_reducible repeat (first | apply Kd.R_alloc | apply Kd.R_drewN | apply Kd.R_drew)); exact (Kd.R_mono (Kd.R_far (p := ⟨gb115, 8, none⟩) (Kd.R_far (p := ⟨gb115, 7, none⟩) (Kd.R_far (p := ⟨gb115, 6, none⟩) (Kd.R_far (p := ⟨gb115, 5, none⟩) (Kd.R_far (p := ⟨gb115, 4, none⟩) (Kd.R_far (p := ⟨gb115, 3, none⟩) (Kd.R_far (p := ⟨gb115, 2, none⟩) (Kd.R_far (p := ⟨gb115, 1, none⟩) (Kd.R_far (p := ⟨gb115, 0, none⟩) (Kd.R_mono HO_3.out (fun k_ hk => (⟨hk, hk.2⟩ : _ ∧ k_ ≠ gb115))) (fun _ hk => hk.2) (.string ((rd_T106 l0 x9_1).f0.f0))) (fun _ hk => hk.2) (.string ((rd_T106 l0 x9_1).f0.f1))) (fun _ hk => hk.2) (.string ((rd_T106 l0 x9_1).f0.f2))) (fun _ hk => hk.2) (.bool ((rd_T106 l0 x9_1).f1))) (fun _ hk => hk.2) (.string ((rd_T106 l0 x9_1).f2))) (fun _ hk => hk.2) (.string ((rd_T106 l0 x9_1).f3))) (fun _ hk => hk.2) (.string ((rd_T106 l0 x9_1).f4))) (fun _ hk => hk.2) (.string ((rd_T106 l0 x9_1).f5))) (fun _ hk => hk.2) (.bool ((rd_T106 l0 x9_1).f6))) (fun _ h_ => h_.1))) hb); have n1_ := Aside0.mk (blk_below (g := gb115) (o := .cells #[.string ((rd_T106 l0 x9_1).f0.f0), .string ((rd_T106 l0 x9_1).f0.f1), .string ((rd_T106 l0 x9_1).f0.f2), .bool ((rd_T106 l0 x9_1).f1), .string ((rd_T106 l0 x9_1).f2), .string ((rd_T106 l0 x9_1).f3), .string ((rd_T106 l0 x9_1).f4), .string ((rd_T106 l0 x9_1).f5), .bool ((rd_T106 l0 x9_1).f6)] 106 (0, 0)) (by (with_reducible repeat (first | refine blk_drewN ?_ _ | refine blk_drew ?_ | refine blk_alloc ?_ _)); refine blk_put (cs := #[.string ((rd_T106 l0 x9_1).f0.f0), .string ((rd_T106 l0 x9_1).f0.f1), .string ((rd_T106 l0 x9_1).f0.f2), .bool ((rd_T106 l0 x9_1).f1), .string ((rd_T106 l0 x9_1).f2), .string ((rd_T106 l0 x9_1).f3), .string ((rd_T106 l0 x9_1).f4), .string ((rd_T106 l0 x9_1).f5), .bool false]) ?_ 8 _ rfl; (with_reducible repeat (first | refine blk_drewN ?_ _ | refine blk_drew ?_ | refine blk_alloc ?_ _)); refine blk_put (cs := #[.string ((rd_T106 l0 x9_1).f0.f0), .string ((rd_T106 l0 x9_1).f0.f1), .string ((rd_T106 l0 x9_1).f0.f2), .bool ((rd_T106 l0 x9_1).f1), .string ((rd_T106 l0 x9_1).f2), .string ((rd_T106 l0 x9_1).f3), .string ((rd_T106 l0 x9_1).f4), .string (⟨#[]⟩ : ByteArray), .bool false]) ?_ 7 _ rfl; (with_reducible repeat (first | refine blk_drewN ?_ _ | refine blk_drew ?_ | refine blk_alloc ?_ _)); refine blk_put (cs := #[.string ((rd_T106 l0 x9_1).f0.f0), .string ((rd_T106 l0 x9_1).f0.f1), .string ((rd_T106 l0 x9_1).f0.f2), .bool ((rd_T106 l0 x9_1).f1), .string ((rd_T106 l0 x9_1).f2), .string ((rd_T106 l0 x9_1).f3), .string (⟨#[]⟩ : ByteArray), .string (⟨#[]⟩ : ByteArray), .bool false]) ?_ 6 _ rfl; (with_reducible repeat (first | refine blk_drewN ?_ _ | refine blk_drew ?_ | refine blk_alloc ?_ _)); refine blk_put (cs := #[.string ((rd_T106 l0 x9_1).f0.f0), .string ((rd_T106 l0 x9_1).f0.f1), .string ((rd_T106 l0 x9_1).f0.f2), .bool ((rd_T106 l0 x9_1).f1), .string ((rd_T106 l0 x9_1).f2), .string (⟨#[]⟩ : ByteArray), .string (⟨#[]⟩ : ByteArray), .string (⟨#[]⟩ : ByteArray), .bool false]) ?_ 5 _ rfl; (with_reducible repeat (first | refine blk_drewN ?_ _ | refine blk_drew ?_ | refine blk_alloc ?_ _)); refine blk_put (cs := #[.string ((rd_T106 l0 x9_1).f0.f0), .string ((rd_T106 l0 x9_1).f0.f1), .string ((rd_T106 l0 x9_1).f0.f2), .bool ((rd_T106 l0 x9_1).f1), .string (⟨#[]⟩ : ByteArray), .string (⟨#[]⟩ : ByteArray), .string (⟨#[]⟩ : ByteArray), .string (⟨#[]⟩ : ByteArray), .bool false]) ?_ 4 _ rfl; (with_reducible repeat (first | refine blk_drewN ?_ _ | refine blk_drew ?_ | refine blk_alloc ?_ _)); refine blk_put (cs := #[.string ((rd_T106 l0 x9_1).f0.f0), .string ((rd_T106 l0 x9_1).f0.f1), .string ((rd_T106 l0 x9_1).f0.f2), .bool false, .string (⟨#[]⟩ : ByteArray), .string (⟨#[]⟩ : ByteArray), .string (⟨#[]⟩ : ByteArray), .string (⟨#[]⟩ : ByteArray), .bool false]) ?_ 3 _ rfl; (with_reducible repeat (first | refine blk_drewN ?_ _ | refine blk_drew ?_ | refine blk_alloc ?_ _)); refine blk_put (cs := #[.string ((rd_T106 l0 x9_1).f0.f0), .string ((rd_T106 l0 x9_1).f0.f1), .string (⟨#[]⟩ : ByteArray), .bool false, .string (⟨#[]⟩ : ByteArray), .string (⟨#[]⟩ : ByteArray), .string (⟨#[]⟩ : ByteArray), .string (⟨#[]⟩ : ByteArray), .bool false]) ?_ 2 _ rfl; (with_reducible repeat (first | refine blk_drewN ?_ _ | refine blk_drew ?_ | refine blk_alloc ?_ _)); refine blk_put (cs := #[.string ((rd_T106 l0 x9_1).f0.f0), .string (⟨#[]⟩ : ByteArray), .string (⟨#[]⟩ : ByteArray), .bool false, .string (⟨#[]⟩ : ByteArray), .string (⟨#[]⟩ : ByteArray), .string (⟨#[]⟩ : ByteArray), .string (⟨#[]⟩ : ByteArray), .bool false]) ?_ 1 _ rfl; (with_reducible repeat (first | refine blk_drewN ?_ _ | refine blk_drew ?_ | refine blk_alloc ?_ _)); refine blk_put (cs := #[.string (⟨#[]⟩ : ByteArray), .string (⟨#[]⟩ : ByteArray), .string (⟨#[]⟩ : ByteArray), .bool false, .string (⟨#[]⟩ : ByteArray), .string (⟨#[]⟩ : ByteArray), .string (⟨#[]⟩ : ByteArray), .string (⟨#[]⟩ : ByteArray), .bool false]) ?_ 0 _ rfl; (with_reducible repeat (first | refine blk_drewN ?_ _ | refine blk_drew ?_ | refine blk_alloc ?_ _)); exact BK115.out) hb); have n2_ := Aside0.mk (below_step (by repeat (first | (with_reducible first | exact HB.out | apply below_alloc | apply pw_below_drewN | apply below_drew1 | refine below_set ?_ GE115.out) | exact HB.out)) hb); clear HO_3; clear BK115; clear HB; have HO_3 := n0_; have BK115 := n1_; have HB := n2_; clear n0_ n1_ n2_; (try clear hb); (try clear hb2); (try clear hk); (try clear hi); have hcz39_0 : w38.cell? ⟨gb115, 0, none⟩ = some (.string ((rd_T106 l0 x9_1).f0.f0)) := (blk_cell BK115.out 0).trans rfl; have hcz39_1 : w38.cell? ⟨gb115, 1, none⟩ = some (.string ((rd_T106 l0 x9_1).f0.f1)) := (blk_cell BK115.out 1).trans rfl; have hcz39_2 : w38.cell? ⟨gb115, 2, none⟩ = some (.string ((rd_T106 l0 x9_1).f0.f2)) := (blk_cell BK115.out 2).trans rfl; have hcz39_3 : w38.cell? ⟨gb115, 3, none⟩ = some (.bool ((rd_T106 l0 x9_1).f1)) := (blk_cell BK115.out 3).trans rfl; have hcz39_4 : w38.cell? ⟨gb115, 4, none⟩ = some (.string ((rd_T106 l0 x9_1).f2)) := (blk_cell BK115.out 4).trans rfl; have hcz39_5 : w38.cell? ⟨gb115, 5, none⟩ = some (.string ((rd_T106 l0 x9_1).f3)) := (blk_cell BK115.out 5).trans rfl; have hcz39_6 : w38.cell? ⟨gb115, 6, none⟩ = some (.string ((rd_T106 l0 x9_1).f4)) := (blk_cell BK115.out 6).trans rfl; have hcz39_7 : w38.cell? ⟨gb115, 7, none⟩ = some (.string ((rd_T106 l0 x9_1).f5)) := (blk_cell BK115.out 7).trans rfl; have hcz39_8 : w38.cell? ⟨gb115, 8, none⟩ = some (.bool ((rd_T106 l0 x9_1).f6)) := (blk_cell BK115.out 8).trans rfl; have hfz39_0 := blk_frozen BK115.out 0; have hfz39_1 := blk_frozen BK115.out 1; have hfz39_2 := blk_frozen BK115.out 2; have hfz39_3 := blk_frozen BK115.out 3; have hfz39_4 := blk_frozen BK115.out 4; have hfz39_5 := blk_frozen BK115.out 5; have hfz39_6 := blk_frozen BK115.out 6; have hfz39_7 := blk_frozen BK115.out 7; have hfz39_8 := blk_frozen BK115.out 8) | ((with_reducible refine gate_builtin (b := .append) (xs := #[.tmp 15, .tmp 17]) rfl ?_); at_builtin; refine Kd.R_append k106 (w0 := w) w.heap.size rfl (.tmp 15) (.tmp 17) 29 106 (.agg #[(.string ⟨#[]⟩), (.string ⟨#[]⟩), (.string ⟨#[]⟩), (.bool false), (.string ⟨#[]⟩), (.string ⟨#[]⟩), (.string ⟨#[]⟩), (.string ⟨#[]⟩), (.bool false)]) 128 rfl Try.underlying29 info106 rfl (by decide) (by omega) (.slice Ao37 x3_1.length co37) x3_1 (⟨(⟨(rd_T106 l0 x9_1).f0.f0, (rd_T106 l0 x9_1).f0.f1, (rd_T106 l0 x9_1).f0.f2⟩ : S84), (rd_T106 l0 x9_1).f1, (rd_T106 l0 x9_1).f2, (rd_T106 l0 x9_1).f3, (rd_T106 l0 x9_1).f4, (rd_T106 l0 x9_1).f5, (rd_T106 l0 x9_1).f6⟩ : S106) [.string ((rd_T106 l0 x9_1).f0.f0), .string ((rd_T106 l0 x9_1).f0.f1), .string ((rd_T106 l0 x9_1).f0.f2), .bool ((rd_T106 l0 x9_1).f1), .string ((rd_T106 l0 x9_1).f2), .string ((rd_T106 l0 x9_1).f3), .string ((rd_T106 l0 x9_1).f4), .string ((rd_T106 l0 x9_1).f5), .bool ((rd_T106 l0 x9_1).f6)] (fun k_ => k_ ≠ gb115) (fun _ => False) rfl rfl ?aP (fun _ hk => hk.elim) ?aF ?aO ?aB ?aS ?aL ?_; (case aP => exact k106_mkM _ _ _ (⟨(⟨(rd_T106 l0 x9_1).f0.f0, (rd_T106 l0 x9_1).f0.f1, (rd_T106 l0 x9_1).f0.f2⟩ : S84), (rd_T106 l0 x9_1).f1, (rd_T106 l0 x9_1).f2, (rd_T106 l0 x9_1).f3, (rd_T106 l0 x9_1).f4, (rd_T106 l0 x9_1).f5, (rd_T106 l0 x9_1).f6⟩ : S106)); (case aB => exact (by repeat (first | (with_reducible first | exact HB.out | apply below_alloc | apply pw_below_drewN | apply below_drew1 | refine below_set ?_ GE115.out) | exact HB.out))); (case aF => exact (fun k_ hk => Kd.freshB (g := gb115) (o := .cells #[.string ((rd_T106 l0 x9_1).f0.f0), .string ((rd_T106 l0 x9_1).f0.f1), .string ((rd_T106 l0 x9_1).f0.f2), .bool ((rd_T106 l0 x9_1).f1), .string ((rd_T106 l0 x9_1).f2), .string ((rd_T106 l0 x9_1).f3), .string ((rd_T106 l0 x9_1).f4), .string ((rd_T106 l0 x9_1).f5), .bool ((rd_T106 l0 x9_1).f6)] 106 (0, 0)) (by (with_reducible repeat (first | refine blk_drewN ?_ _ | refine blk_drew ?_ | refine blk_alloc ?_ _)); exact BK115.out) k_ hk)); (case aO => exact (by (with_reducible repeat (first | apply Kd.R_alloc | apply Kd.R_drewN | apply Kd.R_drew)); exact Kd.R_mono HO_3.out (fun _ hk => hk.2))); (case aS => exact (below_size (by repeat (first | (with_reducible first | exact HB.out | apply below_alloc | apply pw_below_drewN | apply below_drew1 | refine below_set ?_ GE115.out) | exact HB.out)))); (case aL => have := LMc34.out; omega); intro v125 w40 ho hb hg hat; rw [← Ny124.out] at ho; have n0_ := Aside0.mk (blk_grown (g := gb115) (o := .cells #[.string ((rd_T106 l0 x9_1).f0.f0), .string ((rd_T106 l0 x9_1).f0.f1), .string ((rd_T106 l0 x9_1).f0.f2), .bool ((rd_T106 l0 x9_1).f1), .string ((rd_T106 l0 x9_1).f2), .string ((rd_T106 l0 x9_1).f3), .string ((rd_T106 l0 x9_1).f4), .string ((rd_T106 l0 x9_1).f5), .bool ((rd_T106 l0 x9_1).f6)] 106 (0, 0)) (by (with_reducible repeat (first | refine blk_drewN ?_ _ | refine blk_drew ?_ | refine blk_alloc ?_ _)); exact BK115.out) hg (Kd.R_away HO_3.out (fun _ hk => hk.2))); have n1_ := Aside0.mk (hb); have n2_ := Aside0.mk (ho); clear BK115; clear HB; clear HO_3; have BK115 := n0_; have HB := n1_; have HO126 := n2_; clear n0_ n1_ n2_; clear ho hb hg hat))
          go_roundg k1
          case measure => have := HK1.out; omega
          case rel => exact ⟨(y124), (wrap64 (x9_1 + 1)), (by first | rfl | (simp; done) | (simp [*]; done)), H', ⟨by have := HK1.out; omega⟩, ⟨by (with_reducible repeat (first | apply Kd.R_alloc | apply Kd.R_drewN | apply Kd.R_drew)); exact Kd.R_mono HO126.out (fun _ hk => trivial)⟩, ⟨by repeat (first | (with_reducible first | exact HB.out | apply below_alloc | apply pw_below_drewN | apply below_drew1 | refine below_set ?_ GE115.out) | exact HB.out)⟩⟩
         ·rw [if_neg c34] at H
          exact absurd H (by simp)
       ·replace c10 := Bool.eq_false_iff.mpr c10
        subst c10
        have H1 : (if x3_1.length < 1099511627776 then (doc_Of.l0 k1 (x3_1 ++ [(⟨(⟨(rd_T106 l0 x9_1).f0.f0, (rd_T106 l0 x9_1).f0.f1, (rd_T106 l0 x9_1).f0.f2⟩ : S84), (rd_T106 l0 x9_1).f1, (rd_T106 l0 x9_1).f2, (rd_T106 l0 x9_1).f3, (rd_T106 l0 x9_1).f4, (rd_T106 l0 x9_1).f5, (rd_T106 l0 x9_1).f6⟩ : S106)]) l0 (l0.length : Int) (wrap64 (x9_1 + 1))) else (none)) = some r := by rw [if_neg (show ¬ (false = true) by decide)] at H; exact H
        clear H
        have H := H1
        clear H1
        by_cases c41 : x3_1.length < 1099511627776
        ·rw [if_pos c41] at H
         have LMc41 := Aside0.mk c41
         clear c41
         obtain ⟨y127, hy127⟩ : ∃ y_ : List (S106), y_ = (x3_1 ++ [(⟨(⟨(rd_T106 l0 x9_1).f0.f0, (rd_T106 l0 x9_1).f0.f1, (rd_T106 l0 x9_1).f0.f2⟩ : S84), (rd_T106 l0 x9_1).f1, (rd_T106 l0 x9_1).f2, (rd_T106 l0 x9_1).f3, (rd_T106 l0 x9_1).f4, (rd_T106 l0 x9_1).f5, (rd_T106 l0 x9_1).f6⟩ : S106)]) := ⟨_, rfl⟩
         replace H : (doc_Of.l0 k1 y127 l0 (l0.length : Int) (wrap64 (x9_1 + 1))) = some r := by first | (rw [hy127]; with_reducible exact H) | (have H2_ := (Option.bind_some _ _).symm.trans H; rw [hy127]; with_reducible exact H2_) | (have H2_ := (Option.bind_some _ _).symm.trans H; with_reducible exact H2_) | with_reducible exact H | (rw [hy127]; exact H) | exact H
         have Ny127 := Aside0.mk hy127
         clear hy127
         have H' := Aside0.mk H
         clear H
         have p114 : 0 ≤ (x9_1 : Int) := of_decide_eq_true (by first | (with_reducible assumption) | assumption)
         have q114 : x9_1 < (l0.length : Int) := of_decide_eq_true (by first | (with_reducible assumption) | assumption)
         obtain ⟨ad114, e114, hx114_0, hx114_1, hx114_2, hx114_3, hx114_4, hx114_5, hx114_6, hx114_7, hx114_8⟩ := at_T106 HR0.out x9_1 p114 q114
         cases e114
         replace hx114_0 := (HB.out.cell (World.block_lt_of_cell? w _ hx114_0)).trans hx114_0
         replace hx114_1 := (HB.out.cell (World.block_lt_of_cell? w _ hx114_1)).trans hx114_1
         replace hx114_2 := (HB.out.cell (World.block_lt_of_cell? w _ hx114_2)).trans hx114_2
         replace hx114_3 := (HB.out.cell (World.block_lt_of_cell? w _ hx114_3)).trans hx114_3
         replace hx114_4 := (HB.out.cell (World.block_lt_of_cell? w _ hx114_4)).trans hx114_4
         replace hx114_5 := (HB.out.cell (World.block_lt_of_cell? w _ hx114_5)).trans hx114_5
         replace hx114_6 := (HB.out.cell (World.block_lt_of_cell? w _ hx114_6)).trans hx114_6
         replace hx114_7 := (HB.out.cell (World.block_lt_of_cell? w _ hx114_7)).trans hx114_7
         replace hx114_8 := (HB.out.cell (World.block_lt_of_cell? w _ hx114_8)).trans hx114_8
         replace p114 := eq_true p114
         replace q114 := eq_true q114
         go_wp2_with (first | ((with_reducible refine gate_dst (N := 5) rfl ?_); refine box_event ?hg (N := 5) ?hd (cs := #[.string (⟨#[]⟩ : ByteArray), .string (⟨#[]⟩ : ByteArray), .string (⟨#[]⟩ : ByteArray), .bool false, .string (⟨#[]⟩ : ByteArray), .string (⟨#[]⟩ : ByteArray), .string (⟨#[]⟩ : ByteArray), .string (⟨#[]⟩ : ByteArray), .bool false]) (t := 106) ?hr ?_; (case hd => rfl); (case hg => rfl); (case hr => first | (go_simp; done) | (go_simp; rfl)); intro gb115 hg w42 hbox hb; have n0_ := Aside0.mk (Kd.R_below (Kd.R_elderB (by (with_reducible repeat (first | apply Kd.R_alloc | apply Kd.R_drewN | apply Kd.R_drew)); exact HO_3.out) gb115 (Nat.le_of_eq hg.symm)) hb); have n1_ := Aside0.mk (below_step (by repeat (first | (with_reducible first | exact HB.out | apply below_alloc | apply pw_below_drewN | apply below_drew1) | exact HB.out)) hb); have n2_ := Aside0.mk (hbox); have n3_ := Aside0.mk ((by rw [hg]; exact (below_size (by repeat (first | (with_reducible first | exact HB.out | apply below_alloc | apply pw_below_drewN | apply below_drew1) | exact HB.out))) : w.heap.size ≤ gb115)); have n4_ := Aside0.mk ((by rw [hg]; exact (below_size (by repeat (first | (with_reducible first | exact HB.out | apply below_alloc | apply pw_below_drewN | apply below_drew1) | exact HB.out))) : w.heap.size ≤ gb115)); clear HO_3; clear HB; have HO_3 := n0_; have HB := n1_; have BK115 := n2_; have GW115 := n3_; have GE115 := n4_; clear n0_ n1_ n2_ n3_ n4_; clear hb hbox hg; have hcz43_0 : w42.cell? ⟨gb115, 0, none⟩ = some (.string (⟨#[]⟩ : ByteArray)) := (blk_cell BK115.out 0).trans rfl; have hcz43_1 : w42.cell? ⟨gb115, 1, none⟩ = some (.string (⟨#[]⟩ : ByteArray)) := (blk_cell BK115.out 1).trans rfl; have hcz43_2 : w42.cell? ⟨gb115, 2, none⟩ = some (.string (⟨#[]⟩ : ByteArray)) := (blk_cell BK115.out 2).trans rfl; have hcz43_3 : w42.cell? ⟨gb115, 3, none⟩ = some (.bool false) := (blk_cell BK115.out 3).trans rfl; have hcz43_4 : w42.cell? ⟨gb115, 4, none⟩ = some (.string (⟨#[]⟩ : ByteArray)) := (blk_cell BK115.out 4).trans rfl; have hcz43_5 : w42.cell? ⟨gb115, 5, none⟩ = some (.string (⟨#[]⟩ : ByteArray)) := (blk_cell BK115.out 5).trans rfl; have hcz43_6 : w42.cell? ⟨gb115, 6, none⟩ = some (.string (⟨#[]⟩ : ByteArray)) := (blk_cell BK115.out 6).trans rfl; have hcz43_7 : w42.cell? ⟨gb115, 7, none⟩ = some (.string (⟨#[]⟩ : ByteArray)) := (blk_cell BK115.out 7).trans rfl; have hcz43_8 : w42.cell? ⟨gb115, 8, none⟩ = some (.bool false) := (blk_cell BK115.out 8).trans rfl; have hfz43_0 := blk_frozen BK115.out 0; have hfz43_1 := blk_frozen BK115.out 1; have hfz43_2 := blk_frozen BK115.out 2; have hfz43_3 := blk_frozen BK115.out 3; have hfz43_4 := blk_frozen BK115.out 4; have hfz43_5 := blk_frozen BK115.out 5; have hfz43_6 := blk_frozen BK115.out 6; have hfz43_7 := blk_frozen BK115.out 7; have hfz43_8 := blk_frozen BK115.out 8; obtain ⟨Ao44, co44, eo44⟩ := Kd.R_slice HO_3.out; subst eo44) | ((with_reducible refine gate_callee (f := 75) rfl ?_); refine goesL_ (some 25) rfl rfl Try.func75 (by kernel_rfl) rfl #[.agg #[.string ((rd_T106 l0 x9_1).f0.f0), .string ((rd_T106 l0 x9_1).f0.f1), .string ((rd_T106 l0 x9_1).f0.f2), .bool ((rd_T106 l0 x9_1).f1), .string ((rd_T106 l0 x9_1).f2), .string ((rd_T106 l0 x9_1).f3), .string ((rd_T106 l0 x9_1).f4), .string ((rd_T106 l0 x9_1).f5), .bool ((rd_T106 l0 x9_1).f6)]] rfl (by (try simp only [List.map_toArray, List.map_cons, List.map_nil]); first | done | rfl | (simp only [List.length_drop, List.length_take]; rfl)) ?_; (with_reducible refine (doc_Part_isText.calls ((rd_T106 l0 x9_1).f0.f0) ((rd_T106 l0 x9_1).f0.f1) ((rd_T106 l0 x9_1).f0.f2) ((rd_T106 l0 x9_1).f1) ((rd_T106 l0 x9_1).f2) ((rd_T106 l0 x9_1).f3) ((rd_T106 l0 x9_1).f4) ((rd_T106 l0 x9_1).f5) ((rd_T106 l0 x9_1).f6) false _ A9.out).mono ?_); rintro e w45 ⟨rfl, hb⟩; refine ⟨_, rfl, ?_⟩; have n0_ := Aside0.mk (Kd.R_below (by (with_reducible repeat (first | apply Kd.R_alloc | apply Kd.R_drewN | apply Kd.R_drew)); exact (Kd.R_mono (Kd.R_far (p := ⟨gb115, 8, none⟩) (Kd.R_far (p := ⟨gb115, 7, none⟩) (Kd.R_far (p := ⟨gb115, 6, none⟩) (Kd.R_far (p := ⟨gb115, 5, none⟩) (Kd.R_far (p := ⟨gb115, 4, none⟩) (Kd.R_far (p := ⟨gb115, 3, none⟩) (Kd.R_far (p := ⟨gb115, 2, none⟩) (Kd.R_far (p := ⟨gb115, 1, none⟩) (Kd.R_far (p := ⟨gb115, 0, none⟩) (Kd.R_mono HO_3.out (fun k_ hk => (⟨hk, hk.2⟩ : _ ∧ k_ ≠ gb115))) (fun _ hk => hk.2) (.string ((rd_T106 l0 x9_1).f0.f0))) (fun _ hk => hk.2) (.string ((rd_T106 l0 x9_1).f0.f1))) (fun _ hk => hk.2) (.string ((rd_T106 l0 x9_1).f0.f2))) (fun _ hk => hk.2) (.bool ((rd_T106 l0 x9_1).f1))) (fun _ hk => hk.2) (.string ((rd_T106 l0 x9_1).f2))) (fun _ hk => hk.2) (.string ((rd_T106 l0 x9_1).f3))) (fun _ hk => hk.2) (.string ((rd_T106 l0 x9_1).f4))) (fun _ hk => hk.2) (.string ((rd_T106 l0 x9_1).f5))) (fun _ hk => hk.2) (.bool ((rd_T106 l0 x9_1).f6))) (fun _ h_ => h_.1))) hb); have n1_ := Aside0.mk (blk_below (g := gb115) (o := .cells #[.string ((rd_T106 l0 x9_1).f0.f0), .string ((rd_T106 l0 x9_1).f0.f1), .string ((rd_T106 l0 x9_1).f0.f2), .bool ((rd_T106 l0 x9_1).f1), .string ((rd_T106 l0 x9_1).f2), .string ((rd_T106 l0 x9_1).f3), .string ((rd_T106 l0 x9_1).f4), .string ((rd_T106 l0 x9_1).f5), .bool ((rd_T106 l0 x9_1).f6)] 106 (0, 0)) (by (with_reducible repeat (first | refine blk_drewN ?_ _ | refine blk_drew ?_ | refine blk_alloc ?_ _)); refine blk_put (cs := #[.string ((rd_T106 l0 x9_1).f0.f0), .string ((rd_T106 l0 x9_1).f0.f1), .string ((rd_T106 l0 x9_1).f0.f2), .bool ((rd_T106 l0 x9_1).f1), .string ((rd_T106 l0 x9_1).f2), .string ((rd_T106 l0 x9_1).f3), .string ((rd_T106 l0 x9_1).f4), .string ((rd_T106 l0 x9_1).f5), .bool false]) ?_ 8 _ rfl; (with_reducible repeat (first | refine blk_drewN ?_ _ | refine blk_drew ?_ | refine blk_alloc ?_ _)); refine blk_put (cs := #[.string ((rd_T106 l0 x9_1).f0.f0), .string ((rd_T106 l0 x9_1).f0.f1), .string ((rd_T106 l0 x9_1).f0.f2), .bool ((rd_T106 l0 x9_1).f1), .string ((rd_T106 l0 x9_1).f2), .string ((rd_T106 l0 x9_1).f3), .string ((rd_T106 l0 x9_1).f4), .string (⟨#[]⟩ : ByteArray), .bool false]) ?_ 7 _ rfl; (with_reducible repeat (first | refine blk_drewN ?_ _ | refine blk_drew ?_ | refine blk_alloc ?_ _)); refine blk_put (cs := #[.string ((rd_T106 l0 x9_1).f0.f0), .string ((rd_T106 l0 x9_1).f0.f1), .string ((rd_T106 l0 x9_1).f0.f2), .bool ((rd_T106 l0 x9_1).f1), .string ((rd_T106 l0 x9_1).f2), .string ((rd_T106 l0 x9_1).f3), .string (⟨#[]⟩ : ByteArray), .string (⟨#[]⟩ : ByteArray), .bool false]) ?_ 6 _ rfl; (with_reducible repeat (first | refine blk_drewN ?_ _ | refine blk_drew ?_ | refine blk_alloc ?_ _)); refine blk_put (cs := #[.string ((rd_T106 l0 x9_1).f0.f0), .string ((rd_T106 l0 x9_1).f0.f1), .string ((rd_T106 l0 x9_1).f0.f2), .bool ((rd_T106 l0 x9_1).f1), .string ((rd_T106 l0 x9_1).f2), .string (⟨#[]⟩ : ByteArray), .string (⟨#[]⟩ : ByteArray), .string (⟨#[]⟩ : ByteArray), .bool false]) ?_ 5 _ rfl; (with_reducible repeat (first | refine blk_drewN ?_ _ | refine blk_drew ?_ | refine blk_alloc ?_ _)); refine blk_put (cs := #[.string ((rd_T106 l0 x9_1).f0.f0), .string ((rd_T106 l0 x9_1).f0.f1), .string ((rd_T106 l0 x9_1).f0.f2), .bool ((rd_T106 l0 x9_1).f1), .string (⟨#[]⟩ : ByteArray), .string (⟨#[]⟩ : ByteArray), .string (⟨#[]⟩ : ByteArray), .string (⟨#[]⟩ : ByteArray), .bool false]) ?_ 4 _ rfl; (with_reducible repeat (first | refine blk_drewN ?_ _ | refine blk_drew ?_ | refine blk_alloc ?_ _)); refine blk_put (cs := #[.string ((rd_T106 l0 x9_1).f0.f0), .string ((rd_T106 l0 x9_1).f0.f1), .string ((rd_T106 l0 x9_1).f0.f2), .bool false, .string (⟨#[]⟩ : ByteArray), .string (⟨#[]⟩ : ByteArray), .string (⟨#[]⟩ : ByteArray), .string (⟨#[]⟩ : ByteArray), .bool false]) ?_ 3 _ rfl; (with_reducible repeat (first | refine blk_drewN ?_ _ | refine blk_drew ?_ | refine blk_alloc ?_ _)); refine blk_put (cs := #[.string ((rd_T106 l0 x9_1).f0.f0), .string ((rd_T106 l0 x9_1).f0.f1), .string (⟨#[]⟩ : ByteArray), .bool false, .string (⟨#[]⟩ : ByteArray), .string (⟨#[]⟩ : ByteArray), .string (⟨#[]⟩ : ByteArray), .string (⟨#[]⟩ : ByteArray), .bool false]) ?_ 2 _ rfl; (with_reducible repeat (first | refine blk_drewN ?_ _ | refine blk_drew ?_ | refine blk_alloc ?_ _)); refine blk_put (cs := #[.string ((rd_T106 l0 x9_1).f0.f0), .string (⟨#[]⟩ : ByteArray), .string (⟨#[]⟩ : ByteArray), .bool false, .string (⟨#[]⟩ : ByteArray), .string (⟨#[]⟩ : ByteArray), .string (⟨#[]⟩ : ByteArray), .string (⟨#[]⟩ : ByteArray), .bool false]) ?_ 1 _ rfl; (with_reducible repeat (first | refine blk_drewN ?_ _ | refine blk_drew ?_ | refine blk_alloc ?_ _)); refine blk_put (cs := #[.string (⟨#[]⟩ : ByteArray), .string (⟨#[]⟩ : ByteArray), .string (⟨#[]⟩ : ByteArray), .bool false, .string (⟨#[]⟩ : ByteArray), .string (⟨#[]⟩ : ByteArray), .string (⟨#[]⟩ : ByteArray), .string (⟨#[]⟩ : ByteArray), .bool false]) ?_ 0 _ rfl; (with_reducible repeat (first | refine blk_drewN ?_ _ | refine blk_drew ?_ | refine blk_alloc ?_ _)); exact BK115.out) hb); have n2_ := Aside0.mk (below_step (by repeat (first | (with_reducible first | exact HB.out | apply below_alloc | apply pw_below_drewN | apply below_drew1 | refine below_set ?_ GE115.out) | exact HB.out)) hb); clear HO_3; clear BK115; clear HB; have HO_3 := n0_; have BK115 := n1_; have HB := n2_; clear n0_ n1_ n2_; (try clear hb); (try clear hb2); (try clear hk); (try clear hi); have hcz46_0 : w45.cell? ⟨gb115, 0, none⟩ = some (.string ((rd_T106 l0 x9_1).f0.f0)) := (blk_cell BK115.out 0).trans rfl; have hcz46_1 : w45.cell? ⟨gb115, 1, none⟩ = some (.string ((rd_T106 l0 x9_1).f0.f1)) := (blk_cell BK115.out 1).trans rfl; have hcz46_2 : w45.cell? ⟨gb115, 2, none⟩ = some (.string ((rd_T106 l0 x9_1).f0.f2)) := (blk_cell BK115.out 2).trans rfl; have hcz46_3 : w45.cell? ⟨gb115, 3, none⟩ = some (.bool ((rd_T106 l0 x9_1).f1)) := (blk_cell BK115.out 3).trans rfl; have hcz46_4 : w45.cell? ⟨gb115, 4, none⟩ = some (.string ((rd_T106 l0 x9_1).f2)) := (blk_cell BK115.out 4).trans rfl; have hcz46_5 : w45.cell? ⟨gb115, 5, none⟩ = some (.string ((rd_T106 l0 x9_1).f3)) := (blk_cell BK115.out 5).trans rfl; have hcz46_6 : w45.cell? ⟨gb115, 6, none⟩ = some (.string ((rd_T106 l0 x9_1).f4)) := (blk_cell BK115.out 6).trans rfl; have hcz46_7 : w45.cell? ⟨gb115, 7, none⟩ = some (.string ((rd_T106 l0 x9_1).f5)) := (blk_cell BK115.out 7).trans rfl; have hcz46_8 : w45.cell? ⟨gb115, 8, none⟩ = some (.bool ((rd_T106 l0 x9_1).f6)) := (blk_cell BK115.out 8).trans rfl; have hfz46_0 := blk_frozen BK115.out 0; have hfz46_1 := blk_frozen BK115.out 1; have hfz46_2 := blk_frozen BK115.out 2; have hfz46_3 := blk_frozen BK115.out 3; have hfz46_4 := blk_frozen BK115.out 4; have hfz46_5 := blk_frozen BK115.out 5; have hfz46_6 := blk_frozen BK115.out 6; have hfz46_7 := blk_frozen BK115.out 7; have hfz46_8 := blk_frozen BK115.out 8) | ((with_reducible refine gate_builtin (b := .append) (xs := #[.tmp 15, .tmp 17]) rfl ?_); at_builtin; refine Kd.R_append k106 (w0 := w) w.heap.size rfl (.tmp 15) (.tmp 17) 29 106 (.agg #[(.string ⟨#[]⟩), (.string ⟨#[]⟩), (.string ⟨#[]⟩), (.bool false), (.string ⟨#[]⟩), (.string ⟨#[]⟩), (.string ⟨#[]⟩), (.string ⟨#[]⟩), (.bool false)]) 128 rfl Try.underlying29 info106 rfl (by decide) (by omega) (.slice Ao44 x3_1.length co44) x3_1 (⟨(⟨(rd_T106 l0 x9_1).f0.f0, (rd_T106 l0 x9_1).f0.f1, (rd_T106 l0 x9_1).f0.f2⟩ : S84), (rd_T106 l0 x9_1).f1, (rd_T106 l0 x9_1).f2, (rd_T106 l0 x9_1).f3, (rd_T106 l0 x9_1).f4, (rd_T106 l0 x9_1).f5, (rd_T106 l0 x9_1).f6⟩ : S106) [.string ((rd_T106 l0 x9_1).f0.f0), .string ((rd_T106 l0 x9_1).f0.f1), .string ((rd_T106 l0 x9_1).f0.f2), .bool ((rd_T106 l0 x9_1).f1), .string ((rd_T106 l0 x9_1).f2), .string ((rd_T106 l0 x9_1).f3), .string ((rd_T106 l0 x9_1).f4), .string ((rd_T106 l0 x9_1).f5), .bool ((rd_T106 l0 x9_1).f6)] (fun k_ => k_ ≠ gb115) (fun _ => False) rfl rfl ?aP (fun _ hk => hk.elim) ?aF ?aO ?aB ?aS ?aL ?_; (case aP => exact k106_mkM _ _ _ (⟨(⟨(rd_T106 l0 x9_1).f0.f0, (rd_T106 l0 x9_1).f0.f1, (rd_T106 l0 x9_1).f0.f2⟩ : S84), (rd_T106 l0 x9_1).f1, (rd_T106 l0 x9_1).f2, (rd_T106 l0 x9_1).f3, (rd_T106 l0 x9_1).f4, (rd_T106 l0 x9_1).f5, (rd_T106 l0 x9_1).f6⟩ : S106)); (case aB => exact (by repeat (first | (with_reducible first | exact HB.out | apply below_alloc | apply pw_below_drewN | apply below_drew1 | refine below_set ?_ GE115.out) | exact HB.out))); (case aF => exact (fun k_ hk => Kd.freshB (g := gb115) (o := .cells #[.string ((rd_T106 l0 x9_1).f0.f0), .string ((rd_T106 l0 x9_1).f0.f1), .string ((rd_T106 l0 x9_1).f0.f2), .bool ((rd_T106 l0 x9_1).f1), .string ((rd_T106 l0 x9_1).f2), .string ((rd_T106 l0 x9_1).f3), .string ((rd_T106 l0 x9_1).f4), .string ((rd_T106 l0 x9_1).f5), .bool ((rd_T106 l0 x9_1).f6)] 106 (0, 0)) (by (with_reducible repeat (first | refine blk_drewN ?_ _ | refine blk_drew ?_ | refine blk_alloc ?_ _)); exact BK115.out) k_ hk)); (case aO => exact (by (with_reducible repeat (first | apply Kd.R_alloc | apply Kd.R_drewN | apply Kd.R_drew)); exact Kd.R_mono HO_3.out (fun _ hk => hk.2))); (case aS => exact (below_size (by repeat (first | (with_reducible first | exact HB.out | apply below_alloc | apply pw_below_drewN | apply below_drew1 | refine below_set ?_ GE115.out) | exact HB.out)))); (case aL => have := LMc41.out; omega); intro v128 w47 ho hb hg hat; rw [← Ny127.out] at ho; have n0_ := Aside0.mk (blk_grown (g := gb115) (o := .cells #[.string ((rd_T106 l0 x9_1).f0.f0), .string ((rd_T106 l0 x9_1).f0.f1), .string ((rd_T106 l0 x9_1).f0.f2), .bool ((rd_T106 l0 x9_1).f1), .string ((rd_T106 l0 x9_1).f2), .string ((rd_T106 l0 x9_1).f3), .string ((rd_T106 l0 x9_1).f4), .string ((rd_T106 l0 x9_1).f5), .bool ((rd_T106 l0 x9_1).f6)] 106 (0, 0)) (by (with_reducible repeat (first | refine blk_drewN ?_ _ | refine blk_drew ?_ | refine blk_alloc ?_ _)); exact BK115.out) hg (Kd.R_away HO_3.out (fun _ hk => hk.2))); have n1_ := Aside0.mk (hb); have n2_ := Aside0.mk (ho); clear BK115; clear HB; clear HO_3; have BK115 := n0_; have HB := n1_; have HO129 := n2_; clear n0_ n1_ n2_; clear ho hb hg hat))
         go_roundg k1
         case measure => have := HK1.out; omega
         case rel => exact ⟨(y127), (wrap64 (x9_1 + 1)), (by first | rfl | (simp; done) | (simp [*]; done)), H', ⟨by have := HK1.out; omega⟩, ⟨by (with_reducible repeat (first | apply Kd.R_alloc | apply Kd.R_drewN | apply Kd.R_drew)); exact Kd.R_mono HO129.out (fun _ hk => trivial)⟩, ⟨by repeat (first | (with_reducible first | exact HB.out | apply below_alloc | apply pw_below_drewN | apply below_drew1 | refine below_set ?_ GE115.out) | exact HB.out)⟩⟩
        ·rw [if_neg c41] at H
         exact absurd H (by simp)
     ·rw [if_neg c4] at H
      exact absurd H (by simp)
    ·rw [if_neg c3] at H
     exact absurd H (by simp)
   ·rw [if_neg c2] at H
    have c2b0 : decide (x9_1 < (l0.length : Int)) = false := decide_eq_false c2
    clear c2
    obtain rfl := Option.some.inj H
    go_wp2
    go_ret
    exact ⟨_, by first | rfl | (simp [errW_none, errW_some] <;> rfl) | (simp [*, errW_none, errW_some] <;> rfl), by (with_reducible repeat (first | apply Kd.R_alloc | apply Kd.R_drewN | apply Kd.R_drew)); exact HO_3.out, by repeat (first | (with_reducible first | exact HB.out | apply below_alloc | apply pw_below_drewN | apply below_drew1) | exact HB.out)⟩
end Go.Proofs.Ytfiamddinkokbaa.F
end

section
set_option linter.unusedVariables false
set_option linter.unusedSimpArgs false
namespace Go.Proofs.Ytfiamddinkokbaa.F
open Go.RowKit Go.Proofs.YtfiamddinkokbaaW.PrintWords Go.Proofs.YtfiamddinkokbaaW.PrintLast Go.Proofs.YtfiamddinkokbaaW.PrintMore
attribute [local go_sem] max2_int min2_int max_two min_two max_three min_three max_four min_four
set_option linter.unusedVariables false
set_option linter.unusedSimpArgs false
def doc_Doc_Conflicts.l0 : Nat → Int → List (S106) → Int → Int → Option (Int)
 | 0, _, _, _, _ => none
 | k + 1, x3, x6, x7, x8 => if x8 < x7 then (if 0 ≤ x8 then (if x8 < (x6.length : Int) then (if (rd_T106 x6 x8).f1 = true then (doc_Doc_Conflicts.l0 k (wrap64 (x3 + 1)) x6 x7 (wrap64 (x8 + 1))) else (doc_Doc_Conflicts.l0 k x3 x6 x7 (wrap64 (x8 + 1)))) else (none)) else (none)) else (some x3)
def doc_Doc_Conflicts.f (k : Nat) (l0 : List (S106)) : Option (Int) := doc_Doc_Conflicts.l0 k 0 l0 (l0.length : Int) 0
theorem doc_Doc_Conflicts.mono_l : ∀ k, (∀ y0 y1 y2 y3, LeO (doc_Doc_Conflicts.l0 k y0 y1 y2 y3) (doc_Doc_Conflicts.l0 (k + 1) y0 y1 y2 y3))
 | 0 => fun _ _ _ _ r h => by simp [doc_Doc_Conflicts.l0] at h
 | k + 1 => by
  have ih0 := doc_Doc_Conflicts.mono_l k
  ·intro y0 y1 y2 y3
   unfold doc_Doc_Conflicts.l0
   repeat' first
   | (with_reducible exact ih0 _ _ _ _)
   | (with_reducible exact LeO.refl _)
   | (with_reducible exact LeO.none _)
   | (with_reducible refine LeO.ite ?_ ?_)
   | (with_reducible refine LeO.bind ?_ (fun _ => ?_))
   | exact ih0 _ _ _ _
   | exact LeO.none _
   | refine LeO.ite ?_ ?_
   | refine LeO.bind ?_ (fun _ => ?_)
theorem doc_Doc_Conflicts.mono : ∀ a0 k, LeO (doc_Doc_Conflicts.f k a0) (doc_Doc_Conflicts.f (k + 1) a0) := by
 intro a0 k
 have ih0 := doc_Doc_Conflicts.mono_l k
 unfold doc_Doc_Conflicts.f
 repeat' first
   | (with_reducible exact ih0 _ _ _ _)
   | (with_reducible exact LeO.refl _)
   | (with_reducible exact LeO.none _)
   | (with_reducible refine LeO.ite ?_ ?_)
   | (with_reducible refine LeO.bind ?_ (fun _ => ?_))
   | exact ih0 _ _ _ _
   | exact LeO.none _
   | refine LeO.ite ?_ ?_
   | refine LeO.bind ?_ (fun _ => ?_)
set_option maxHeartbeats 8000000 in
set_option maxRecDepth 100000 in
theorem doc_Doc_Conflicts.calls (k : Nat) (A0 : Option Addr) (c0 : Nat) (l0 : List (S106)) (r : Int) (w : World) (hr0 : Kd.C k106 w A0 l0.length l0) (hc0 : l0.length ≤ c0) (h : doc_Doc_Conflicts.f k l0 = some r) :
  Calls Try.prog 65 #[.slice A0 l0.length c0] w fun e w' => e = .returned (.int .i64 r) ∧ Below w.heap.size w w' := by
 have hu106 := Try.underlying106
 have HR0 := Aside0.mk hr0
 have HC0 := Aside0.mk hc0
 clear hr0 hc0
 have HB := Aside0.mk (Below.refl w.heap.size w)
 have H : (doc_Doc_Conflicts.l0 k 0 l0 (l0.length : Int) 0) = some r := h
 clear h
 have H' := Aside0.mk H
 clear H
 go_enter Try.func65, Try.ntmps65
 go_wp2
 go_loopg [3, 8] k (fun kq v3 v8 w' => ∃ (x3_1 : Int) (x8_1 : Int), v3 = .int .i64 x3_1 ∧ v8 = .int .i64 x8_1 ∧ Aside0 (doc_Doc_Conflicts.l0 kq x3_1 l0 (l0.length : Int) x8_1 = some r) ∧ Aside0 (kq ≤ k) ∧ Aside0 (Below w.heap.size w w'))
 case atStart => exact ⟨(0), (0), (by first | rfl | (simp; done) | (simp [*]; done)), (by first | rfl | (simp; done) | (simp [*]; done)), H', ⟨Nat.le_refl _⟩, ⟨by repeat (first | (with_reducible first | exact HB.out | apply below_alloc | apply pw_below_drewN | apply below_drew1) | exact HB.out)⟩⟩
 case round =>
  clear H'
  obtain ⟨x3_1, x8_1, rfl, rfl, HA, HK1, HB⟩ := hrel
  cases gk with
  | zero => exact absurd HA.out (by simp [doc_Doc_Conflicts.l0])
  | succ k1 =>
   have H := HA.out
   clear HA
   simp only [doc_Doc_Conflicts.l0] at H
   by_cases c2 : x8_1 < (l0.length : Int)
   ·rw [if_pos c2] at H
    have c2b0 : decide (x8_1 < (l0.length : Int)) = true := decide_eq_true c2
    clear c2
    by_cases c3 : 0 ≤ x8_1
    ·rw [if_pos c3] at H
     have c3b0 : decide (0 ≤ x8_1) = true := decide_eq_true c3
     clear c3
     by_cases c4 : x8_1 < (l0.length : Int)
     ·rw [if_pos c4] at H
      have c4b0 : decide (x8_1 < (l0.length : Int)) = true := decide_eq_true c4
      clear c4
      obtain ⟨bq5, hbq5⟩ : ∃ b_ : Bool, b_ = ((rd_T106 l0 x8_1).f1) := ⟨_, rfl⟩
      replace H : (if bq5 = true then (doc_Doc_Conflicts.l0 k1 (wrap64 (x3_1 + 1)) l0 (l0.length : Int) (wrap64 (x8_1 + 1))) else (doc_Doc_Conflicts.l0 k1 x3_1 l0 (l0.length : Int) (wrap64 (x8_1 + 1)))) = some r := by rw [← hbq5] at H; exact H
      have Nbq5 := Aside0.mk hbq5
      clear hbq5
      by_cases c6 : bq5 = true
      ·subst c6
       have H1 : (doc_Doc_Conflicts.l0 k1 (wrap64 (x3_1 + 1)) l0 (l0.length : Int) (wrap64 (x8_1 + 1))) = some r := by rw [if_pos rfl] at H; exact H
       clear H
       have H := H1
       clear H1
       have H' := Aside0.mk H
       clear H
       have p130 : 0 ≤ (x8_1 : Int) := of_decide_eq_true (by first | (with_reducible assumption) | assumption)
       have q130 : x8_1 < (l0.length : Int) := of_decide_eq_true (by first | (with_reducible assumption) | assumption)
       obtain ⟨ad130, e130, hx130_0, hx130_1, hx130_2, hx130_3, hx130_4, hx130_5, hx130_6, hx130_7, hx130_8⟩ := at_T106 HR0.out x8_1 p130 q130
       (try rw [← Nbq5.out] at hx130_3)
       (try rw [← Nbq5.out] at hx130_8)
       cases e130
       replace hx130_0 := (HB.out.cell (World.block_lt_of_cell? w _ hx130_0)).trans hx130_0
       replace hx130_1 := (HB.out.cell (World.block_lt_of_cell? w _ hx130_1)).trans hx130_1
       replace hx130_2 := (HB.out.cell (World.block_lt_of_cell? w _ hx130_2)).trans hx130_2
       replace hx130_3 := (HB.out.cell (World.block_lt_of_cell? w _ hx130_3)).trans hx130_3
       replace hx130_4 := (HB.out.cell (World.block_lt_of_cell? w _ hx130_4)).trans hx130_4
       replace hx130_5 := (HB.out.cell (World.block_lt_of_cell? w _ hx130_5)).trans hx130_5
       replace hx130_6 := (HB.out.cell (World.block_lt_of_cell? w _ hx130_6)).trans hx130_6
       replace hx130_7 := (HB.out.cell (World.block_lt_of_cell? w _ hx130_7)).trans hx130_7
       replace hx130_8 := (HB.out.cell (World.block_lt_of_cell? w _ hx130_8)).trans hx130_8
       replace p130 := eq_true p130
       replace q130 := eq_true q130
       go_wp2_with (first | ((with_reducible refine gate_dst (N := 5) rfl ?_); refine box_event ?hg (N := 5) ?hd (cs := #[.string (⟨#[]⟩ : ByteArray), .string (⟨#[]⟩ : ByteArray), .string (⟨#[]⟩ : ByteArray), .bool false, .string (⟨#[]⟩ : ByteArray), .string (⟨#[]⟩ : ByteArray), .string (⟨#[]⟩ : ByteArray), .string (⟨#[]⟩ : ByteArray), .bool false]) (t := 106) ?hr ?_; (case hd => rfl); (case hg => rfl); (case hr => first | (go_simp; done) | (go_simp; rfl)); intro gb131 hg w7 hbox hb; have n0_ := Aside0.mk (below_step (by repeat (first | (with_reducible first | exact HB.out | apply below_alloc | apply pw_below_drewN | apply below_drew1) | exact HB.out)) hb); have n1_ := Aside0.mk (hbox); have n2_ := Aside0.mk ((by rw [hg]; exact (below_size (by repeat (first | (with_reducible first | exact HB.out | apply below_alloc | apply pw_below_drewN | apply below_drew1) | exact HB.out))) : w.heap.size ≤ gb131)); have n3_ := Aside0.mk ((by rw [hg]; exact (below_size (by repeat (first | (with_reducible first | exact HB.out | apply below_alloc | apply pw_below_drewN | apply below_drew1) | exact HB.out))) : w.heap.size ≤ gb131)); clear HB; have HB := n0_; have BK131 := n1_; have GW131 := n2_; have GE131 := n3_; clear n0_ n1_ n2_ n3_; clear hb hbox hg; have hcz8_0 : w7.cell? ⟨gb131, 0, none⟩ = some (.string (⟨#[]⟩ : ByteArray)) := (blk_cell BK131.out 0).trans rfl; have hcz8_1 : w7.cell? ⟨gb131, 1, none⟩ = some (.string (⟨#[]⟩ : ByteArray)) := (blk_cell BK131.out 1).trans rfl; have hcz8_2 : w7.cell? ⟨gb131, 2, none⟩ = some (.string (⟨#[]⟩ : ByteArray)) := (blk_cell BK131.out 2).trans rfl; have hcz8_3 : w7.cell? ⟨gb131, 3, none⟩ = some (.bool false) := (blk_cell BK131.out 3).trans rfl; have hcz8_4 : w7.cell? ⟨gb131, 4, none⟩ = some (.string (⟨#[]⟩ : ByteArray)) := (blk_cell BK131.out 4).trans rfl; have hcz8_5 : w7.cell? ⟨gb131, 5, none⟩ = some (.string (⟨#[]⟩ : ByteArray)) := (blk_cell BK131.out 5).trans rfl; have hcz8_6 : w7.cell? ⟨gb131, 6, none⟩ = some (.string (⟨#[]⟩ : ByteArray)) := (blk_cell BK131.out 6).trans rfl; have hcz8_7 : w7.cell? ⟨gb131, 7, none⟩ = some (.string (⟨#[]⟩ : ByteArray)) := (blk_cell BK131.out 7).trans rfl; have hcz8_8 : w7.cell? ⟨gb131, 8, none⟩ = some (.bool false) := (blk_cell BK131.out 8).trans rfl; have hfz8_0 := blk_frozen BK131.out 0; have hfz8_1 := blk_frozen BK131.out 1; have hfz8_2 := blk_frozen BK131.out 2; have hfz8_3 := blk_frozen BK131.out 3; have hfz8_4 := blk_frozen BK131.out 4; have hfz8_5 := blk_frozen BK131.out 5; have hfz8_6 := blk_frozen BK131.out 6; have hfz8_7 := blk_frozen BK131.out 7; have hfz8_8 := blk_frozen BK131.out 8))
       go_roundg k1
       case measure => have := HK1.out; omega
       case rel => exact ⟨(wrap64 (x3_1 + 1)), (wrap64 (x8_1 + 1)), (by first | rfl | (simp; done) | (simp [*]; done)), (by first | rfl | (simp; done) | (simp [*]; done)), H', ⟨by have := HK1.out; omega⟩, ⟨by repeat (first | (with_reducible first | exact HB.out | apply below_alloc | apply pw_below_drewN | apply below_drew1 | refine below_set ?_ GE131.out) | exact HB.out)⟩⟩
      ·replace c6 := Bool.eq_false_iff.mpr c6
       subst c6
       have H1 : (doc_Doc_Conflicts.l0 k1 x3_1 l0 (l0.length : Int) (wrap64 (x8_1 + 1))) = some r := by rw [if_neg (show ¬ (false = true) by decide)] at H; exact H
       clear H
       have H := H1
       clear H1
       have H' := Aside0.mk H
       clear H
       have p130 : 0 ≤ (x8_1 : Int) := of_decide_eq_true (by first | (with_reducible assumption) | assumption)
       have q130 : x8_1 < (l0.length : Int) := of_decide_eq_true (by first | (with_reducible assumption) | assumption)
       obtain ⟨ad130, e130, hx130_0, hx130_1, hx130_2, hx130_3, hx130_4, hx130_5, hx130_6, hx130_7, hx130_8⟩ := at_T106 HR0.out x8_1 p130 q130
       (try rw [← Nbq5.out] at hx130_3)
       (try rw [← Nbq5.out] at hx130_8)
       cases e130
       replace hx130_0 := (HB.out.cell (World.block_lt_of_cell? w _ hx130_0)).trans hx130_0
       replace hx130_1 := (HB.out.cell (World.block_lt_of_cell? w _ hx130_1)).trans hx130_1
       replace hx130_2 := (HB.out.cell (World.block_lt_of_cell? w _ hx130_2)).trans hx130_2
       replace hx130_3 := (HB.out.cell (World.block_lt_of_cell? w _ hx130_3)).trans hx130_3
       replace hx130_4 := (HB.out.cell (World.block_lt_of_cell? w _ hx130_4)).trans hx130_4
       replace hx130_5 := (HB.out.cell (World.block_lt_of_cell? w _ hx130_5)).trans hx130_5
       replace hx130_6 := (HB.out.cell (World.block_lt_of_cell? w _ hx130_6)).trans hx130_6
       replace hx130_7 := (HB.out.cell (World.block_lt_of_cell? w _ hx130_7)).trans hx130_7
       replace hx130_8 := (HB.out.cell (World.block_lt_of_cell? w _ hx130_8)).trans hx130_8
       replace p130 := eq_true p130
       replace q130 := eq_true q130
       go_wp2_with (first | ((with_reducible refine gate_dst (N := 5) rfl ?_); refine box_event ?hg (N := 5) ?hd (cs := #[.string (⟨#[]⟩ : ByteArray), .string (⟨#[]⟩ : ByteArray), .string (⟨#[]⟩ : ByteArray), .bool false, .string (⟨#[]⟩ : ByteArray), .string (⟨#[]⟩ : ByteArray), .string (⟨#[]⟩ : ByteArray), .string (⟨#[]⟩ : ByteArray), .bool false]) (t := 106) ?hr ?_; (case hd => rfl); (case hg => rfl); (case hr => first | (go_simp; done) | (go_simp; rfl)); intro gb131 hg w9 hbox hb; have n0_ := Aside0.mk (below_step (by repeat (first | (with_reducible first | exact HB.out | apply below_alloc | apply pw_below_drewN | apply below_drew1) | exact HB.out)) hb); have n1_ := Aside0.mk (hbox); have n2_ := Aside0.mk ((by rw [hg]; exact (below_size (by repeat (first | (with_reducible first | exact HB.out | apply below_alloc | apply pw_below_drewN | apply below_drew1) | exact HB.out))) : w.heap.size ≤ gb131)); have n3_ := Aside0.mk ((by rw [hg]; exact (below_size (by repeat (first | (with_reducible first | exact HB.out | apply below_alloc | apply pw_below_drewN | apply below_drew1) | exact HB.out))) : w.heap.size ≤ gb131)); clear HB; have HB := n0_; have BK131 := n1_; have GW131 := n2_; have GE131 := n3_; clear n0_ n1_ n2_ n3_; clear hb hbox hg; have hcz10_0 : w9.cell? ⟨gb131, 0, none⟩ = some (.string (⟨#[]⟩ : ByteArray)) := (blk_cell BK131.out 0).trans rfl; have hcz10_1 : w9.cell? ⟨gb131, 1, none⟩ = some (.string (⟨#[]⟩ : ByteArray)) := (blk_cell BK131.out 1).trans rfl; have hcz10_2 : w9.cell? ⟨gb131, 2, none⟩ = some (.string (⟨#[]⟩ : ByteArray)) := (blk_cell BK131.out 2).trans rfl; have hcz10_3 : w9.cell? ⟨gb131, 3, none⟩ = some (.bool false) := (blk_cell BK131.out 3).trans rfl; have hcz10_4 : w9.cell? ⟨gb131, 4, none⟩ = some (.string (⟨#[]⟩ : ByteArray)) := (blk_cell BK131.out 4).trans rfl; have hcz10_5 : w9.cell? ⟨gb131, 5, none⟩ = some (.string (⟨#[]⟩ : ByteArray)) := (blk_cell BK131.out 5).trans rfl; have hcz10_6 : w9.cell? ⟨gb131, 6, none⟩ = some (.string (⟨#[]⟩ : ByteArray)) := (blk_cell BK131.out 6).trans rfl; have hcz10_7 : w9.cell? ⟨gb131, 7, none⟩ = some (.string (⟨#[]⟩ : ByteArray)) := (blk_cell BK131.out 7).trans rfl; have hcz10_8 : w9.cell? ⟨gb131, 8, none⟩ = some (.bool false) := (blk_cell BK131.out 8).trans rfl; have hfz10_0 := blk_frozen BK131.out 0; have hfz10_1 := blk_frozen BK131.out 1; have hfz10_2 := blk_frozen BK131.out 2; have hfz10_3 := blk_frozen BK131.out 3; have hfz10_4 := blk_frozen BK131.out 4; have hfz10_5 := blk_frozen BK131.out 5; have hfz10_6 := blk_frozen BK131.out 6; have hfz10_7 := blk_frozen BK131.out 7; have hfz10_8 := blk_frozen BK131.out 8))
       go_roundg k1
       case measure => have := HK1.out; omega
       case rel => exact ⟨(x3_1), (wrap64 (x8_1 + 1)), (by first | rfl | (simp; done) | (simp [*]; done)), (by first | rfl | (simp; done) | (simp [*]; done)), H', ⟨by have := HK1.out; omega⟩, ⟨by repeat (first | (with_reducible first | exact HB.out | apply below_alloc | apply pw_below_drewN | apply below_drew1 | refine below_set ?_ GE131.out) | exact HB.out)⟩⟩
     ·rw [if_neg c4] at H
      exact absurd H (by simp)
    ·rw [if_neg c3] at H
     exact absurd H (by simp)
   ·rw [if_neg c2] at H
    have c2b0 : decide (x8_1 < (l0.length : Int)) = false := decide_eq_false c2
    clear c2
    obtain rfl := Option.some.inj H
    go_wp2
    go_ret
    exact ⟨by first | rfl | (simp [errW_none, errW_some] <;> rfl) | (simp [*, errW_none, errW_some] <;> rfl), by repeat (first | (with_reducible first | exact HB.out | apply below_alloc | apply pw_below_drewN | apply below_drew1) | exact HB.out)⟩
end Go.Proofs.Ytfiamddinkokbaa.F
end

section
set_option linter.unusedVariables false
set_option linter.unusedSimpArgs false
namespace Go.Proofs.Ytfiamddinkokbaa.F
open Go.RowKit Go.Proofs.YtfiamddinkokbaaW.PrintWords Go.Proofs.YtfiamddinkokbaaW.PrintLast Go.Proofs.YtfiamddinkokbaaW.PrintMore
attribute [local go_sem] max2_int min2_int max_two min_two max_three min_three max_four min_four
set_option linter.unusedVariables false
set_option linter.unusedSimpArgs false
def doc_Part_isConflict.f (a0_0 : ByteArray) (a0_1 : ByteArray) (a0_2 : ByteArray) (a0_3 : Bool) (a0_4 : ByteArray) (a0_5 : ByteArray) (a0_6 : ByteArray) (a0_7 : ByteArray) (a0_8 : Bool) : Option (Bool) := if a0_3 = true then (if a0_4.toList = ([] : List UInt8) then (if a0_8 = true then (some true) else (if a0_6.size + a0_1.size ≤ 9223372036854775807 then (some ((a0_6 ++ a0_1).toList == ([] : List UInt8))) else (none))) else (some false)) else (some false)
set_option maxHeartbeats 8000000 in
set_option maxRecDepth 100000 in
theorem doc_Part_isConflict.calls (a0_0 : ByteArray) (a0_1 : ByteArray) (a0_2 : ByteArray) (a0_3 : Bool) (a0_4 : ByteArray) (a0_5 : ByteArray) (a0_6 : ByteArray) (a0_7 : ByteArray) (a0_8 : Bool) (r : Bool) (w : World) (h : doc_Part_isConflict.f a0_0 a0_1 a0_2 a0_3 a0_4 a0_5 a0_6 a0_7 a0_8 = some r) :
  Calls Try.prog 113 #[.agg #[.string a0_0, .string a0_1, .string a0_2, .bool a0_3, .string a0_4, .string a0_5, .string a0_6, .string a0_7, .bool a0_8]] w fun e w' => e = .returned (.bool r) ∧ Below w.heap.size w w' := by
 have hu106 := Try.underlying106
 have HB := Aside0.mk (Below.refl w.heap.size w)
 have H : (if a0_3 = true then (if a0_4.toList = ([] : List UInt8) then (if a0_8 = true then (some true) else (if a0_6.size + a0_1.size ≤ 9223372036854775807 then (some ((a0_6 ++ a0_1).toList == ([] : List UInt8))) else (none))) else (some false)) else (some false)) = some r := h
 clear h
 by_cases c2 : a0_3 = true
 ·subst c2
  have H1 : (if a0_4.toList = ([] : List UInt8) then (if a0_8 = true then (some true) else (if a0_6.size + a0_1.size ≤ 9223372036854775807 then (some ((a0_6 ++ a0_1).toList == ([] : List UInt8))) else (none))) else (some false)) = some r := by rw [if_pos rfl] at H; exact H
  clear H
  have H := H1
  clear H1
  by_cases c3 : a0_4.toList = ([] : List UInt8)
  ·rw [if_pos c3] at H
   have c3b0 : (a0_4.toList == ([] : List UInt8)) = true := beq_iff_eq.mpr c3
   have c3b1 : (a0_4.toList != ([] : List UInt8)) = false := bne_eq_false_iff_eq.mpr c3
   clear c3
   by_cases c4 : a0_8 = true
   ·subst c4
    have H1 : (some true) = some r := by rw [if_pos rfl] at H; exact H
    clear H
    have H := H1
    clear H1
    obtain rfl := Option.some.inj H
    go_enter Try.func113, Try.ntmps113
    go_wp2_with (first | ((with_reducible refine gate_dst (N := 1) rfl ?_); refine box_event ?hg (N := 1) ?hd (cs := #[.string a0_0, .string a0_1, .string a0_2, .bool true, .string a0_4, .string a0_5, .string a0_6, .string a0_7, .bool true]) (t := 106) ?hr ?_; (case hd => rfl); (case hg => rfl); (case hr => first | (go_simp; done) | (go_simp; rfl)); intro gb132 hg w5 hbox hb; have n0_ := Aside0.mk (below_step (by repeat (first | (with_reducible first | exact HB.out | apply below_alloc | apply pw_below_drewN | apply below_drew1) | exact HB.out)) hb); have n1_ := Aside0.mk (hbox); have n2_ := Aside0.mk ((by rw [hg]; exact (below_size (by repeat (first | (with_reducible first | exact HB.out | apply below_alloc | apply pw_below_drewN | apply below_drew1) | exact HB.out))) : w.heap.size ≤ gb132)); have n3_ := Aside0.mk ((by rw [hg]; exact (below_size (by repeat (first | (with_reducible first | exact HB.out | apply below_alloc | apply pw_below_drewN | apply below_drew1) | exact HB.out))) : w.heap.size ≤ gb132)); clear HB; have HB := n0_; have BK132 := n1_; have GW132 := n2_; have GE132 := n3_; clear n0_ n1_ n2_ n3_; clear hb hbox hg; have hcz6_0 : w5.cell? ⟨gb132, 0, none⟩ = some (.string a0_0) := (blk_cell BK132.out 0).trans rfl; have hcz6_1 : w5.cell? ⟨gb132, 1, none⟩ = some (.string a0_1) := (blk_cell BK132.out 1).trans rfl; have hcz6_2 : w5.cell? ⟨gb132, 2, none⟩ = some (.string a0_2) := (blk_cell BK132.out 2).trans rfl; have hcz6_3 : w5.cell? ⟨gb132, 3, none⟩ = some (.bool true) := (blk_cell BK132.out 3).trans rfl; have hcz6_4 : w5.cell? ⟨gb132, 4, none⟩ = some (.string a0_4) := (blk_cell BK132.out 4).trans rfl; have hcz6_5 : w5.cell? ⟨gb132, 5, none⟩ = some (.string a0_5) := (blk_cell BK132.out 5).trans rfl; have hcz6_6 : w5.cell? ⟨gb132, 6, none⟩ = some (.string a0_6) := (blk_cell BK132.out 6).trans rfl; have hcz6_7 : w5.cell? ⟨gb132, 7, none⟩ = some (.string a0_7) := (blk_cell BK132.out 7).trans rfl; have hcz6_8 : w5.cell? ⟨gb132, 8, none⟩ = some (.bool true) := (blk_cell BK132.out 8).trans rfl; have hfz6_0 := blk_frozen BK132.out 0; have hfz6_1 := blk_frozen BK132.out 1; have hfz6_2 := blk_frozen BK132.out 2; have hfz6_3 := blk_frozen BK132.out 3; have hfz6_4 := blk_frozen BK132.out 4; have hfz6_5 := blk_frozen BK132.out 5; have hfz6_6 := blk_frozen BK132.out 6; have hfz6_7 := blk_frozen BK132.out 7; have hfz6_8 := blk_frozen BK132.out 8))
    go_ret
    exact ⟨by first | rfl | (simp [errW_none, errW_some] <;> rfl) | (simp [*, errW_none, errW_some] <;> rfl), by repeat (first | (with_reducible first | exact HB.out | apply below_alloc | apply pw_below_drewN | apply below_drew1 | refine below_set ?_ GE132.out) | exact HB.out)⟩
   ·replace c4 := Bool.eq_false_iff.mpr c4
    subst c4
    have H1 : (if a0_6.size + a0_1.size ≤ 9223372036854775807 then (some ((a0_6 ++ a0_1).toList == ([] : List UInt8))) else (none)) = some r := by rw [if_neg (show ¬ (false = true) by decide)] at H; exact H
    clear H
    have H := H1
    clear H1
    by_cases c7 : a0_6.size + a0_1.size ≤ 9223372036854775807
    ·rw [if_pos c7] at H
     have c7b0 := eq_true c7
     have c7b1 : decide (a0_6.size + a0_1.size ≤ 9223372036854775807) = true := decide_eq_true c7
     try have c7b2 : (9223372036854775807 < a0_6.size + a0_1.size) = False := eq_false (Nat.not_lt.2 c7)
     obtain rfl := Option.some.inj H
     go_enter Try.func113, Try.ntmps113
     go_wp2_with (first | ((with_reducible refine gate_dst (N := 1) rfl ?_); refine box_event ?hg (N := 1) ?hd (cs := #[.string a0_0, .string a0_1, .string a0_2, .bool true, .string a0_4, .string a0_5, .string a0_6, .string a0_7, .bool false]) (t := 106) ?hr ?_; (case hd => rfl); (case hg => rfl); (case hr => first | (go_simp; done) | (go_simp; rfl)); intro gb132 hg w8 hbox hb; have n0_ := Aside0.mk (below_step (by repeat (first | (with_reducible first | exact HB.out | apply below_alloc | apply pw_below_drewN | apply below_drew1) | exact HB.out)) hb); have n1_ := Aside0.mk (hbox); have n2_ := Aside0.mk ((by rw [hg]; exact (below_size (by repeat (first | (with_reducible first | exact HB.out | apply below_alloc | apply pw_below_drewN | apply below_drew1) | exact HB.out))) : w.heap.size ≤ gb132)); have n3_ := Aside0.mk ((by rw [hg]; exact (below_size (by repeat (first | (with_reducible first | exact HB.out | apply below_alloc | apply pw_below_drewN | apply below_drew1) | exact HB.out))) : w.heap.size ≤ gb132)); clear HB; have HB := n0_; have BK132 := n1_; have GW132 := n2_; have GE132 := n3_; clear n0_ n1_ n2_ n3_; clear hb hbox hg; have hcz9_0 : w8.cell? ⟨gb132, 0, none⟩ = some (.string a0_0) := (blk_cell BK132.out 0).trans rfl; have hcz9_1 : w8.cell? ⟨gb132, 1, none⟩ = some (.string a0_1) := (blk_cell BK132.out 1).trans rfl; have hcz9_2 : w8.cell? ⟨gb132, 2, none⟩ = some (.string a0_2) := (blk_cell BK132.out 2).trans rfl; have hcz9_3 : w8.cell? ⟨gb132, 3, none⟩ = some (.bool true) := (blk_cell BK132.out 3).trans rfl; have hcz9_4 : w8.cell? ⟨gb132, 4, none⟩ = some (.string a0_4) := (blk_cell BK132.out 4).trans rfl; have hcz9_5 : w8.cell? ⟨gb132, 5, none⟩ = some (.string a0_5) := (blk_cell BK132.out 5).trans rfl; have hcz9_6 : w8.cell? ⟨gb132, 6, none⟩ = some (.string a0_6) := (blk_cell BK132.out 6).trans rfl; have hcz9_7 : w8.cell? ⟨gb132, 7, none⟩ = some (.string a0_7) := (blk_cell BK132.out 7).trans rfl; have hcz9_8 : w8.cell? ⟨gb132, 8, none⟩ = some (.bool false) := (blk_cell BK132.out 8).trans rfl; have hfz9_0 := blk_frozen BK132.out 0; have hfz9_1 := blk_frozen BK132.out 1; have hfz9_2 := blk_frozen BK132.out 2; have hfz9_3 := blk_frozen BK132.out 3; have hfz9_4 := blk_frozen BK132.out 4; have hfz9_5 := blk_frozen BK132.out 5; have hfz9_6 := blk_frozen BK132.out 6; have hfz9_7 := blk_frozen BK132.out 7; have hfz9_8 := blk_frozen BK132.out 8))
     go_ret
     exact ⟨by first | rfl | (simp [errW_none, errW_some] <;> rfl) | (simp [*, errW_none, errW_some] <;> rfl), by repeat (first | (with_reducible first | exact HB.out | apply below_alloc | apply pw_below_drewN | apply below_drew1 | refine below_set ?_ GE132.out) | exact HB.out)⟩
    ·rw [if_neg c7] at H
     exact absurd H (by simp)
  ·rw [if_neg c3] at H
   have c3b0 : (a0_4.toList == ([] : List UInt8)) = false := beq_eq_false_iff_ne.mpr c3
   have c3b1 : (a0_4.toList != ([] : List UInt8)) = true := bne_iff_ne.mpr c3
   obtain rfl := Option.some.inj H
   go_enter Try.func113, Try.ntmps113
   go_wp2_with (first | ((with_reducible refine gate_dst (N := 1) rfl ?_); refine box_event ?hg (N := 1) ?hd (cs := #[.string a0_0, .string a0_1, .string a0_2, .bool true, .string a0_4, .string a0_5, .string a0_6, .string a0_7, .bool a0_8]) (t := 106) ?hr ?_; (case hd => rfl); (case hg => rfl); (case hr => first | (go_simp; done) | (go_simp; rfl)); intro gb132 hg w10 hbox hb; have n0_ := Aside0.mk (below_step (by repeat (first | (with_reducible first | exact HB.out | apply below_alloc | apply pw_below_drewN | apply below_drew1) | exact HB.out)) hb); have n1_ := Aside0.mk (hbox); have n2_ := Aside0.mk ((by rw [hg]; exact (below_size (by repeat (first | (with_reducible first | exact HB.out | apply below_alloc | apply pw_below_drewN | apply below_drew1) | exact HB.out))) : w.heap.size ≤ gb132)); have n3_ := Aside0.mk ((by rw [hg]; exact (below_size (by repeat (first | (with_reducible first | exact HB.out | apply below_alloc | apply pw_below_drewN | apply below_drew1) | exact HB.out))) : w.heap.size ≤ gb132)); clear HB; have HB := n0_; have BK132 := n1_; have GW132 := n2_; have GE132 := n3_; clear n0_ n1_ n2_ n3_; clear hb hbox hg; have hcz11_0 : w10.cell? ⟨gb132, 0, none⟩ = some (.string a0_0) := (blk_cell BK132.out 0).trans rfl; have hcz11_1 : w10.cell? ⟨gb132, 1, none⟩ = some (.string a0_1) := (blk_cell BK132.out 1).trans rfl; have hcz11_2 : w10.cell? ⟨gb132, 2, none⟩ = some (.string a0_2) := (blk_cell BK132.out 2).trans rfl; have hcz11_3 : w10.cell? ⟨gb132, 3, none⟩ = some (.bool true) := (blk_cell BK132.out 3).trans rfl; have hcz11_4 : w10.cell? ⟨gb132, 4, none⟩ = some (.string a0_4) := (blk_cell BK132.out 4).trans rfl; have hcz11_5 : w10.cell? ⟨gb132, 5, none⟩ = some (.string a0_5) := (blk_cell BK132.out 5).trans rfl; have hcz11_6 : w10.cell? ⟨gb132, 6, none⟩ = some (.string a0_6) := (blk_cell BK132.out 6).trans rfl; have hcz11_7 : w10.cell? ⟨gb132, 7, none⟩ = some (.string a0_7) := (blk_cell BK132.out 7).trans rfl; have hcz11_8 : w10.cell? ⟨gb132, 8, none⟩ = some (.bool a0_8) := (blk_cell BK132.out 8).trans rfl; have hfz11_0 := blk_frozen BK132.out 0; have hfz11_1 := blk_frozen BK132.out 1; have hfz11_2 := blk_frozen BK132.out 2; have hfz11_3 := blk_frozen BK132.out 3; have hfz11_4 := blk_frozen BK132.out 4; have hfz11_5 := blk_frozen BK132.out 5; have hfz11_6 := blk_frozen BK132.out 6; have hfz11_7 := blk_frozen BK132.out 7; have hfz11_8 := blk_frozen BK132.out 8))
   go_ret
   exact ⟨by first | rfl | (simp [errW_none, errW_some] <;> rfl) | (simp [*, errW_none, errW_some] <;> rfl), by repeat (first | (with_reducible first | exact HB.out | apply below_alloc | apply pw_below_drewN | apply below_drew1 | refine below_set ?_ GE132.out) | exact HB.out)⟩
 ·replace c2 := Bool.eq_false_iff.mpr c2
  subst c2
  have H1 : (some false) = some r := by rw [if_neg (show ¬ (false = true) by decide)] at H; exact H
  clear H
  have H := H1
  clear H1
  obtain rfl := Option.some.inj H
  go_enter Try.func113, Try.ntmps113
  go_wp2_with (first | ((with_reducible refine gate_dst (N := 1) rfl ?_); refine box_event ?hg (N := 1) ?hd (cs := #[.string a0_0, .string a0_1, .string a0_2, .bool false, .string a0_4, .string a0_5, .string a0_6, .string a0_7, .bool a0_8]) (t := 106) ?hr ?_; (case hd => rfl); (case hg => rfl); (case hr => first | (go_simp; done) | (go_simp; rfl)); intro gb132 hg w12 hbox hb; have n0_ := Aside0.mk (below_step (by repeat (first | (with_reducible first | exact HB.out | apply below_alloc | apply pw_below_drewN | apply below_drew1) | exact HB.out)) hb); have n1_ := Aside0.mk (hbox); have n2_ := Aside0.mk ((by rw [hg]; exact (below_size (by repeat (first | (with_reducible first | exact HB.out | apply below_alloc | apply pw_below_drewN | apply below_drew1) | exact HB.out))) : w.heap.size ≤ gb132)); have n3_ := Aside0.mk ((by rw [hg]; exact (below_size (by repeat (first | (with_reducible first | exact HB.out | apply below_alloc | apply pw_below_drewN | apply below_drew1) | exact HB.out))) : w.heap.size ≤ gb132)); clear HB; have HB := n0_; have BK132 := n1_; have GW132 := n2_; have GE132 := n3_; clear n0_ n1_ n2_ n3_; clear hb hbox hg; have hcz13_0 : w12.cell? ⟨gb132, 0, none⟩ = some (.string a0_0) := (blk_cell BK132.out 0).trans rfl; have hcz13_1 : w12.cell? ⟨gb132, 1, none⟩ = some (.string a0_1) := (blk_cell BK132.out 1).trans rfl; have hcz13_2 : w12.cell? ⟨gb132, 2, none⟩ = some (.string a0_2) := (blk_cell BK132.out 2).trans rfl; have hcz13_3 : w12.cell? ⟨gb132, 3, none⟩ = some (.bool false) := (blk_cell BK132.out 3).trans rfl; have hcz13_4 : w12.cell? ⟨gb132, 4, none⟩ = some (.string a0_4) := (blk_cell BK132.out 4).trans rfl; have hcz13_5 : w12.cell? ⟨gb132, 5, none⟩ = some (.string a0_5) := (blk_cell BK132.out 5).trans rfl; have hcz13_6 : w12.cell? ⟨gb132, 6, none⟩ = some (.string a0_6) := (blk_cell BK132.out 6).trans rfl; have hcz13_7 : w12.cell? ⟨gb132, 7, none⟩ = some (.string a0_7) := (blk_cell BK132.out 7).trans rfl; have hcz13_8 : w12.cell? ⟨gb132, 8, none⟩ = some (.bool a0_8) := (blk_cell BK132.out 8).trans rfl; have hfz13_0 := blk_frozen BK132.out 0; have hfz13_1 := blk_frozen BK132.out 1; have hfz13_2 := blk_frozen BK132.out 2; have hfz13_3 := blk_frozen BK132.out 3; have hfz13_4 := blk_frozen BK132.out 4; have hfz13_5 := blk_frozen BK132.out 5; have hfz13_6 := blk_frozen BK132.out 6; have hfz13_7 := blk_frozen BK132.out 7; have hfz13_8 := blk_frozen BK132.out 8))
  go_ret
  exact ⟨by first | rfl | (simp [errW_none, errW_some] <;> rfl) | (simp [*, errW_none, errW_some] <;> rfl), by repeat (first | (with_reducible first | exact HB.out | apply below_alloc | apply pw_below_drewN | apply below_drew1 | refine below_set ?_ GE132.out) | exact HB.out)⟩
end Go.Proofs.Ytfiamddinkokbaa.F
end

section
set_option linter.unusedVariables false
set_option linter.unusedSimpArgs false
namespace Go.Proofs.Ytfiamddinkokbaa.F
open Go.RowKit Go.Proofs.YtfiamddinkokbaaW.PrintWords Go.Proofs.YtfiamddinkokbaaW.PrintLast Go.Proofs.YtfiamddinkokbaaW.PrintMore
attribute [local go_sem] max2_int min2_int max_two min_two max_three min_three max_four min_four
set_option linter.unusedVariables false
set_option linter.unusedSimpArgs false
def strings_Contains.f (a0 a1 : ByteArray) : Option Bool := if a1.size = 1 then some (decide (0 ≤ Lib.indexByte a0.data.toList (a1.data.toList.headD 0))) else none
theorem strings_Contains.calls (a0 : ByteArray) (a1 : ByteArray) (r : Bool) (w : World) (h : strings_Contains.f a0 a1 = some r) :
  Calls Try.prog 84 #[.string a0, .string a1] w fun e w' => e = .returned (.bool r) ∧ Drawn0 w w' := by
 exact ext_contains a0 a1 r w h
end Go.Proofs.Ytfiamddinkokbaa.F
end

section
set_option linter.unusedVariables false
set_option linter.unusedSimpArgs false
namespace Go.Proofs.Ytfiamddinkokbaa.F
open Go.RowKit Go.Proofs.YtfiamddinkokbaaW.PrintWords Go.Proofs.YtfiamddinkokbaaW.PrintLast Go.Proofs.YtfiamddinkokbaaW.PrintMore
attribute [local go_sem] max2_int min2_int max_two min_two max_three min_three max_four min_four
set_option linter.unusedVariables false
set_option linter.unusedSimpArgs false
def doc_Labels_Plain.f (a0_0 : ByteArray) (a0_1 : ByteArray) (a0_2 : ByteArray) : Option (Bool) := if a0_0.size + a0_1.size ≤ 9223372036854775807 then (if (a0_0 ++ a0_1).size + a0_2.size ≤ 9223372036854775807 then ((strings_Contains.f ((a0_0 ++ a0_1) ++ a0_2) (⟨#[10]⟩ : ByteArray)).bind fun t134 => (some (!t134))) else (none)) else (none)
set_option maxHeartbeats 8000000 in
set_option maxRecDepth 100000 in
theorem doc_Labels_Plain.calls (a0_0 : ByteArray) (a0_1 : ByteArray) (a0_2 : ByteArray) (r : Bool) (w : World) (h : doc_Labels_Plain.f a0_0 a0_1 a0_2 = some r) :
  Calls Try.prog 114 #[.agg #[.string a0_0, .string a0_1, .string a0_2]] w fun e w' => e = .returned (.bool r) ∧ Below w.heap.size w w' := by
 have hu84 := Try.underlying84
 have HB := Aside0.mk (Below.refl w.heap.size w)
 have H : (if a0_0.size + a0_1.size ≤ 9223372036854775807 then (if (a0_0 ++ a0_1).size + a0_2.size ≤ 9223372036854775807 then ((strings_Contains.f ((a0_0 ++ a0_1) ++ a0_2) (⟨#[10]⟩ : ByteArray)).bind fun t134 => (some (!t134))) else (none)) else (none)) = some r := h
 clear h
 by_cases c2 : a0_0.size + a0_1.size ≤ 9223372036854775807
 ·rw [if_pos c2] at H
  have c2b0 := eq_true c2
  have c2b1 : decide (a0_0.size + a0_1.size ≤ 9223372036854775807) = true := decide_eq_true c2
  try have c2b2 : (9223372036854775807 < a0_0.size + a0_1.size) = False := eq_false (Nat.not_lt.2 c2)
  by_cases c3 : (a0_0 ++ a0_1).size + a0_2.size ≤ 9223372036854775807
  ·rw [if_pos c3] at H
   have c3b0 := eq_true c3
   have c3b1 : decide ((a0_0 ++ a0_1).size + a0_2.size ≤ 9223372036854775807) = true := decide_eq_true c3
   try have c3b2 : (9223372036854775807 < (a0_0 ++ a0_1).size + a0_2.size) = False := eq_false (Nat.not_lt.2 c3)
   try have c3b3 : (9223372036854775807 < a0_0.size + a0_1.size + a0_2.size) = False := eq_false (Nat.not_lt.2 (Nat.le_trans (Nat.le_of_eq (by first | rfl | (simp only [ByteArray.size_append]; done) | (simp only [ByteArray.size_append]; rfl))) c3))
   replace H := Option.bind_eq_some_iff.mp H
   obtain ⟨t134, A40, H⟩ := H
   replace H : (some (!t134)) = some r := H
   have A4 := Aside0.mk A40
   clear A40
   obtain rfl := Option.some.inj H
   go_enter Try.func114, Try.ntmps114
   go_wp2_with (first | ((with_reducible refine gate_dst (N := 1) rfl ?_); refine box_event ?hg (N := 1) ?hd (cs := #[.string a0_0, .string a0_1, .string a0_2]) (t := 84) ?hr ?_; (case hd => rfl); (case hg => rfl); (case hr => first | (go_simp; done) | (go_simp; rfl)); intro gb133 hg w5 hbox hb; have n0_ := Aside0.mk (below_step (by repeat (first | (with_reducible first | exact HB.out | apply below_alloc | apply pw_below_drewN | apply below_drew1) | exact HB.out)) hb); have n1_ := Aside0.mk (hbox); have n2_ := Aside0.mk ((by rw [hg]; exact (below_size (by repeat (first | (with_reducible first | exact HB.out | apply below_alloc | apply pw_below_drewN | apply below_drew1) | exact HB.out))) : w.heap.size ≤ gb133)); have n3_ := Aside0.mk ((by rw [hg]; exact (below_size (by repeat (first | (with_reducible first | exact HB.out | apply below_alloc | apply pw_below_drewN | apply below_drew1) | exact HB.out))) : w.heap.size ≤ gb133)); clear HB; have HB := n0_; have BK133 := n1_; have GW133 := n2_; have GE133 := n3_; clear n0_ n1_ n2_ n3_; clear hb hbox hg; have hcz6_0 : w5.cell? ⟨gb133, 0, none⟩ = some (.string a0_0) := (blk_cell BK133.out 0).trans rfl; have hcz6_1 : w5.cell? ⟨gb133, 1, none⟩ = some (.string a0_1) := (blk_cell BK133.out 1).trans rfl; have hcz6_2 : w5.cell? ⟨gb133, 2, none⟩ = some (.string a0_2) := (blk_cell BK133.out 2).trans rfl; have hfz6_0 := blk_frozen BK133.out 0; have hfz6_1 := blk_frozen BK133.out 1; have hfz6_2 := blk_frozen BK133.out 2) | ((with_reducible refine gate_callee (f := 84) rfl ?_); refine goesL_ (some 11) rfl rfl Try.func84 (by kernel_rfl) rfl #[.string ((a0_0 ++ a0_1) ++ a0_2), .string (⟨#[10]⟩ : ByteArray)] rfl (by (try simp only [List.map_toArray, List.map_cons, List.map_nil]); first | done | rfl | (simp only [List.length_drop, List.length_take]; rfl)) ?_; (with_reducible refine (strings_Contains.calls ((a0_0 ++ a0_1) ++ a0_2) (⟨#[10]⟩ : ByteArray) t134 _ A4.out).mono ?_); rintro e w' ⟨rfl, ⟨nd, rfl⟩⟩; refine ⟨_, rfl, ?_⟩))
   go_ret
   exact ⟨by first | rfl | (simp [errW_none, errW_some] <;> rfl) | (simp [*, errW_none, errW_some] <;> rfl), by repeat (first | (with_reducible first | exact HB.out | apply below_alloc | apply pw_below_drewN | apply below_drew1 | refine below_set ?_ GE133.out) | exact HB.out)⟩
  ·rw [if_neg c3] at H
   exact absurd H (by simp)
 ·rw [if_neg c2] at H
  exact absurd H (by simp)
end Go.Proofs.Ytfiamddinkokbaa.F
end

section
set_option linter.unusedVariables false
set_option linter.unusedSimpArgs false
namespace Go.Proofs.Ytfiamddinkokbaa.F
open Go.RowKit Go.Proofs.YtfiamddinkokbaaW.PrintWords Go.Proofs.YtfiamddinkokbaaW.PrintLast Go.Proofs.YtfiamddinkokbaaW.PrintMore
attribute [local go_sem] max2_int min2_int max_two min_two max_three min_three max_four min_four
set_option linter.unusedVariables false
set_option linter.unusedSimpArgs false
def stringslite_HasSuffix.f (a0 : ByteArray) (a1 : ByteArray) : Option (Bool) := if (a0.size : Int) ≥ (a1.size : Int) then (if 0 ≤ (wrap64 ((a0.size : Int) - (a1.size : Int))) then (if (wrap64 ((a0.size : Int) - (a1.size : Int))) ≤ (a0.size : Int) then (some ((a0.extract ((wrap64 ((a0.size : Int) - (a1.size : Int))) : Int).toNat a0.size).toList == a1.toList)) else (none)) else (none)) else (some false)
set_option maxHeartbeats 8000000 in
set_option maxRecDepth 100000 in
theorem stringslite_HasSuffix.calls (a0 : ByteArray) (a1 : ByteArray) (r : Bool) (w : World) (h : stringslite_HasSuffix.f a0 a1 = some r) :
  Calls Try.prog 142 #[.string a0, .string a1] w fun e w' => e = .returned (.bool r) ∧ Drawn0 w w' := by
 have H : (if (a0.size : Int) ≥ (a1.size : Int) then (if 0 ≤ (wrap64 ((a0.size : Int) - (a1.size : Int))) then (if (wrap64 ((a0.size : Int) - (a1.size : Int))) ≤ (a0.size : Int) then (some ((a0.extract ((wrap64 ((a0.size : Int) - (a1.size : Int))) : Int).toNat a0.size).toList == a1.toList)) else (none)) else (none)) else (some false)) = some r := h
 clear h
 by_cases c3 : (a0.size : Int) ≥ (a1.size : Int)
 ·rw [if_pos c3] at H
  have c3b0 : decide ((a1.size : Int) ≤ (a0.size : Int)) = true := decide_eq_true c3
  have c3b1 : decide (a1.size ≤ a0.size) = true := decide_eq_true (Int.ofNat_le.mp c3)
  clear c3
  obtain ⟨ji4, hji4⟩ : ∃ j_ : Int, (wrap64 ((a0.size : Int) - (a1.size : Int))) = j_ := ⟨_, rfl⟩
  replace H : (if 0 ≤ (ji4) then (if (ji4) ≤ (a0.size : Int) then (some ((a0.extract ((ji4) : Int).toNat a0.size).toList == a1.toList)) else (none)) else (none)) = some r := by first | (rw [hji4] at H; exact H) | (simp only [hji4] at H ⊢; exact H)
  have hji4w : (IntKind.i64.wrap ((a0.size : Int) - (a1.size : Int))) = ji4 := (i64_w _).trans hji4
  by_cases c5 : 0 ≤ (ji4)
  ·rw [if_pos c5] at H
   have c5b0 := eq_true c5
   have c5b1 : decide (0 ≤ (ji4)) = true := decide_eq_true c5
   clear c5
   by_cases c6 : (ji4) ≤ (a0.size : Int)
   ·rw [if_pos c6] at H
    have c6b0 := eq_true c6
    have c6b1 : decide ((ji4) ≤ (a0.size : Int)) = true := decide_eq_true c6
    clear c6
    obtain rfl := Option.some.inj H
    go_enter Try.func142, Try.ntmps142
    go_wp2
    go_ret
    exact ⟨by first | rfl | (simp; done) | (simp only [← hji4] <;> (first | rfl | simp)) | (simp [*]; done), by repeat (first | exact Drawn0.refl _ | apply Drawn0.step)⟩
   ·rw [if_neg c6] at H
    exact absurd H (by simp)
  ·rw [if_neg c5] at H
   exact absurd H (by simp)
 ·rw [if_neg c3] at H
  have c3b0 : decide ((a1.size : Int) ≤ (a0.size : Int)) = false := decide_eq_false c3
  have c3b1 : decide (a1.size ≤ a0.size) = false := decide_eq_false (fun h => c3 (Int.ofNat_le.mpr h))
  clear c3
  obtain rfl := Option.some.inj H
  go_enter Try.func142, Try.ntmps142
  go_wp2
  go_ret
  exact ⟨by first | rfl | (simp; done) | (simp [*]; done), by repeat (first | exact Drawn0.refl _ | apply Drawn0.step)⟩
end Go.Proofs.Ytfiamddinkokbaa.F
end

section
set_option linter.unusedVariables false
set_option linter.unusedSimpArgs false
namespace Go.Proofs.Ytfiamddinkokbaa.F
open Go.RowKit Go.Proofs.YtfiamddinkokbaaW.PrintWords Go.Proofs.YtfiamddinkokbaaW.PrintLast Go.Proofs.YtfiamddinkokbaaW.PrintMore
attribute [local go_sem] max2_int min2_int max_two min_two max_three min_three max_four min_four
set_option linter.unusedVariables false
set_option linter.unusedSimpArgs false
def strings_HasSuffix.f (a0 : ByteArray) (a1 : ByteArray) : Option (Bool) := (stringslite_HasSuffix.f a0 a1).bind fun t135 => (some t135)
set_option maxHeartbeats 8000000 in
set_option maxRecDepth 100000 in
theorem strings_HasSuffix.calls (a0 : ByteArray) (a1 : ByteArray) (r : Bool) (w : World) (h : strings_HasSuffix.f a0 a1 = some r) :
  Calls Try.prog 115 #[.string a0, .string a1] w fun e w' => e = .returned (.bool r) ∧ Drawn0 w w' := by
 have H : ((stringslite_HasSuffix.f a0 a1).bind fun t135 => (some t135)) = some r := h
 clear h
 replace H := Option.bind_eq_some_iff.mp H
 obtain ⟨t135, A30, H⟩ := H
 replace H : (some t135) = some r := H
 have A3 := Aside0.mk A30
 clear A30
 obtain rfl := Option.some.inj H
 go_enter Try.func115, Try.ntmps115
 go_wp2_with (first | ((with_reducible refine gate_callee (f := 142) rfl ?_); refine goesL_ (some 7) rfl rfl Try.func142 (by kernel_rfl) rfl #[.string a0, .string a1] rfl (by (try simp only [List.map_toArray, List.map_cons, List.map_nil]); first | done | rfl | (simp only [List.length_drop, List.length_take]; rfl)) ?_; (with_reducible refine (stringslite_HasSuffix.calls a0 a1 t135 _ A3.out).mono ?_); rintro e w' ⟨rfl, ⟨nd, rfl⟩⟩; refine ⟨_, rfl, ?_⟩))
 go_ret
 exact ⟨by first | rfl | (simp; done) | (simp [*]; done), by repeat (first | exact Drawn0.refl _ | apply Drawn0.step)⟩
end Go.Proofs.Ytfiamddinkokbaa.F
end

section
set_option linter.unusedVariables false
set_option linter.unusedSimpArgs false
namespace Go.Proofs.Ytfiamddinkokbaa.F
open Go.RowKit Go.Proofs.YtfiamddinkokbaaW.PrintWords Go.Proofs.YtfiamddinkokbaaW.PrintLast Go.Proofs.YtfiamddinkokbaaW.PrintMore
attribute [local go_sem] max2_int min2_int max_two min_two max_three min_three max_four min_four
set_option linter.unusedVariables false
set_option linter.unusedSimpArgs false
def strings_Join.f (l0 : List ByteArray) (a1 : ByteArray) : Option ByteArray := if l0.length ≤ 140737488355328 ∧ (joinB l0 a1).size ≤ 140737488355328 then some (joinB l0 a1) else none
theorem strings_Join.calls (A0 : Option Addr) (c0 : Nat) (l0 : List ByteArray) (a1 : ByteArray) (r : ByteArray) (w : World) (hr0 : Kd.C Kd.string w A0 l0.length l0) (hc0 : l0.length ≤ c0) (h : strings_Join.f l0 a1 = some r) :
  Calls Try.prog 81 #[.slice A0 l0.length c0, .string a1] w fun e w' => e = .returned (.string r) ∧ Below w.heap.size w w' := by
 exact ext_join A0 c0 l0 a1 r w hr0 hc0 h
end Go.Proofs.Ytfiamddinkokbaa.F
end

section
set_option linter.unusedVariables false
set_option linter.unusedSimpArgs false
namespace Go.Proofs.Ytfiamddinkokbaa.F
open Go.RowKit Go.Proofs.YtfiamddinkokbaaW.PrintWords Go.Proofs.YtfiamddinkokbaaW.PrintLast Go.Proofs.YtfiamddinkokbaaW.PrintMore
attribute [local go_sem] max2_int min2_int max_two min_two max_three min_three max_four min_four
set_option linter.unusedVariables false
set_option linter.unusedSimpArgs false
def lines_Join.f (l0 : List ByteArray) : Option (ByteArray) := (strings_Join.f l0 (⟨#[]⟩ : ByteArray)).bind fun t280 => (some t280)
set_option maxHeartbeats 8000000 in
set_option maxRecDepth 100000 in
theorem lines_Join.calls (A0 : Option Addr) (c0 : Nat) (l0 : List ByteArray) (r : ByteArray) (w : World) (hr0 : Kd.C Kd.string w A0 l0.length l0) (hc0 : l0.length ≤ c0) (h : lines_Join.f l0 = some r) :
  Calls Try.prog 33 #[.slice A0 l0.length c0] w fun e w' => e = .returned (.string r) ∧ Below w.heap.size w w' := by
 have HR0 := Aside0.mk hr0
 have HC0 := Aside0.mk hc0
 clear hr0 hc0
 have HB := Aside0.mk (Below.refl w.heap.size w)
 have H : ((strings_Join.f l0 (⟨#[]⟩ : ByteArray)).bind fun t280 => (some t280)) = some r := h
 clear h
 replace H := Option.bind_eq_some_iff.mp H
 obtain ⟨t280, A20, H⟩ := H
 replace H : (some t280) = some r := H
 have A2 := Aside0.mk A20
 clear A20
 obtain rfl := Option.some.inj H
 go_enter Try.func33, Try.ntmps33
 go_wp2_with (first | ((with_reducible refine gate_callee (f := 81) rfl ?_); refine goesL_ (some 4) rfl rfl Try.func81 (by kernel_rfl) rfl #[.slice A0 l0.length c0, .string (⟨#[]⟩ : ByteArray)] rfl (by (try simp only [List.map_toArray, List.map_cons, List.map_nil]); first | done | rfl | (simp only [List.length_drop, List.length_take]; rfl)) ?_; (with_reducible refine (strings_Join.calls _ _ l0 (⟨#[]⟩ : ByteArray) t280 _ ?side1 ?side2 A2.out).mono ?_); (case side1 => repeat (first | exact HR0.out | (with_reducible refine Kd.C_alloc ?_ _) | (with_reducible refine Kd.C_drewN ?_ _) | (with_reducible refine Kd.C_drew ?_))); (case side2 => exact HC0.out); rintro e w3 ⟨rfl, hb⟩; refine ⟨_, rfl, ?_⟩; have n0_ := Aside0.mk (below_step (by repeat (first | (with_reducible first | exact HB.out | apply below_alloc | apply pw_below_drewN | apply below_drew1) | exact HB.out)) hb); clear HB; have HB := n0_; clear n0_; (try clear hb); (try clear hb2); (try clear hk); (try clear hi)))
 go_ret
 exact ⟨by first | rfl | (simp [errW_none, errW_some] <;> rfl) | (simp [*, errW_none, errW_some] <;> rfl), by repeat (first | (with_reducible first | exact HB.out | apply below_alloc | apply pw_below_drewN | apply below_drew1) | exact HB.out)⟩
end Go.Proofs.Ytfiamddinkokbaa.F
end

section
set_option linter.unusedVariables false
set_option linter.unusedSimpArgs false
namespace Go.Proofs.Ytfiamddinkokbaa.F
open Go.RowKit Go.Shelf Go.Proofs.YtfiamddinkokbaaW.PrintWords
set_option linter.unusedVariables false
set_option linter.unusedSimpArgs false
abbrev PP := S106
def Bld (B f X : Nat) (g0 g1 g2 : ByteArray) (st fv : Int) (l : List PP) (w : World) : Prop :=
 ∃ v, B ≤ f ∧ w.heap[f]? = some (.cells #[.string g0, .string g1, .string g2, .int .i64 st, .int .i64 fv, v] 176 (0, 0)) ∧ Kd.R k106 106 w B (fun k => k ≠ f ∧ k ≠ X) v l
theorem Bld.below {B f X : Nat} {g0 g1 g2 : ByteArray} {st fv : Int} {l : List PP} {w w' : World} (h : Bld B f X g0 g1 g2 st fv l w) (hb : Below w.heap.size w w') : Bld B f X g0 g1 g2 st fv l w' := by
 obtain ⟨v, h0, h1, h2⟩ := h
 exact ⟨v, h0, (hb.block f (Array.getElem?_eq_some_iff.1 h1).1).trans h1, Kd.R_below h2 hb⟩
theorem Bld.lo {B f X : Nat} {g0 g1 g2 : ByteArray} {st fv : Int} {l : List PP} {w : World} (h : Bld B f X g0 g1 g2 st fv l w) : B ≤ f := by obtain ⟨v, h, _⟩ := h; exact h
theorem Bld.lt {B f X : Nat} {g0 g1 g2 : ByteArray} {st fv : Int} {l : List PP} {w : World} (h : Bld B f X g0 g1 g2 st fv l w) : f < w.heap.size := by obtain ⟨v, _, h, _⟩ := h; exact (Array.getElem?_eq_some_iff.1 h).1
theorem Bld.weaken {B f X : Nat} {g0 g1 g2 : ByteArray} {st fv : Int} {l : List PP} {w : World} (h : Bld B f X g0 g1 g2 st fv l w) : Bld B f f g0 g1 g2 st fv l w := by
 obtain ⟨v, h0, h1, h2⟩ := h
 exact ⟨v, h0, h1, Kd.R_mono h2 (fun k hk => ⟨hk.1, hk.1⟩)⟩
theorem Bld.fresh {B f X : Nat} {g0 g1 g2 : ByteArray} {st fv : Int} {l : List PP} {w w' : World} {Y : Nat} (h : Bld B f X g0 g1 g2 st fv l w) (hY : w.heap.size ≤ Y) (hb : Below w.heap.size w w') : Bld B f Y g0 g1 g2 st fv l w' := by
 obtain ⟨v, h0, h1, h2⟩ := h
 refine ⟨v, h0, (hb.block f (Array.getElem?_eq_some_iff.1 h1).1).trans h1, Kd.R_below ⟨fun k hk => ⟨(h2.1 k hk).1, fun e => ?_⟩, h2.2⟩ hb⟩
 have := Kd.R_lt h2 k hk
 omega
theorem part_info : (Try.prog.info? 106).map (fun i => (i.zero, i.size, i.bytes)) = some (some (.agg #[.string ⟨#[]⟩, .string ⟨#[]⟩, .string ⟨#[]⟩, .bool false, .string ⟨#[]⟩, .string ⟨#[]⟩, .string ⟨#[]⟩, .string ⟨#[]⟩, .bool false]), 9, 128) := by kernel_rfl
theorem bld_put {B f X : Nat} {g0 g1 g2 : ByteArray} {st fv : Int} {v v1 : Value} {l l1 : List PP} {W w1 : World} (h0 : B ≤ f) (h1 : W.heap[f]? = some (.cells #[.string g0, .string g1, .string g2, .int .i64 st, .int .i64 fv, v] 176 (0, 0))) (hR : Kd.R k106 106 W B (fun k => k ≠ f ∧ k ≠ X) v l)
  (hR1 : Kd.R k106 106 w1 B (fun k => k ≠ f ∧ k ≠ X) v1 l1) (hg : W.grownBy w1 v.ownBlock) : w1.heap[f]? = some (.cells #[.string g0, .string g1, .string g2, .int .i64 st, .int .i64 fv, v] 176 (0, 0)) ∧ Bld B f X g0 g1 g2 st fv l1 (w1.setCell ⟨f, 5, none⟩ v1) := by
 have hf : w1.heap[f]? = some (.cells #[.string g0, .string g1, .string g2, .int .i64 st, .int .i64 fv, v] 176 (0, 0)) := (hg.block f (Array.getElem?_eq_some_iff.1 h1).1 (fun e => (hR.1 f e.symm).1 rfl)).trans h1
 refine ⟨hf, v1, h0, ?_, ?_⟩
 ·simp [World.setCell, Array.getElem?_modify, hf]
 ·exact Kd.R_step hR1 (fun k hk _ => Below.heap_setCell _ _ _ _ hk.1)
theorem tr1 {W : World} {p : Addr} {v : Value} (o : Obj) (h : W.cell? p = some v) : (W.alloc o).cell? p = some v := ((below_alloc (Below.refl W.heap.size W) o).cell (World.block_lt_of_cell? W _ h)).trans h
def textPart (j : ByteArray) : PP := ⟨z84, false, j, ⟨#[]⟩, ⟨#[]⟩, ⟨#[]⟩, false⟩
set_option maxHeartbeats 8000000 in
set_option maxRecDepth 100000 in
theorem text_calls {B f X : Nat} {g0 g1 g2 : ByteArray} {st fv : Int} {l : List PP} {w : World} (A1 : Option Addr) (c1 : Nat) (xs : List ByteArray) (j : ByteArray) (h : Bld B f X g0 g1 g2 st fv l w) (hA : Kd.C Kd.string w A1 xs.length xs) (hc : xs.length ≤ c1) (hj : lines_Join.f xs = some j) (hl : l.length ≤ 100000000000) (hBw : B ≤ w.heap.size) (hX : X < w.heap.size) :
  Calls Try.prog 158 #[.pointer (some ⟨f, 0, none⟩), .slice A1 xs.length c1] w fun e w' => e = .returned (.tuple #[]) ∧ Bld B f X g0 g1 g2 st fv (l ++ [textPart j]) w' ∧ Below B w w' ∧ Keeps 106 f w w' ∧ (X ≠ f → w'.heap[X]? = w.heap[X]?) := by
 have HXl := Aside0.mk hX
 have HBw := Aside0.mk hBw
 obtain ⟨v, h0, h1, hR⟩ := h
 obtain ⟨Av, cv, rfl⟩ := Kd.R_slice hR
 have c5 := (blk_cell h1 5).trans (rfl : _ = some (Value.slice Av l.length cv))
 have HS := Aside0.mk h1
 have HF0 := Aside0.mk h0
 have HR := Aside0.mk hR
 have HJ := Aside0.mk (fun W (hb : Below w.heap.size w W) => lines_Join.calls A1 c1 xs j W (Kd.C_below hA hb) hc hj)
 clear h0 h1 hR hBw hA hc hj hX
 go_enter Try.func158, Try.ntmps158
 go_region_law ((first
   | (refine Go.Proofs.YtfiamddinkokbaaW.PrintLast.goes_ Try.func33 (by kernel_rfl) rfl #[.slice A1 xs.length c1] (by rfl) rfl rfl (by (try simp only [List.map_toArray, List.map_cons, List.map_nil]); rfl) ?_; refine (HJ.out _ (below_drew1 (Below.refl _ _))).mono ?_; rintro e w1 ⟨rfl, hb1⟩; refine ⟨_, rfl, ?_⟩; have HB1 := Aside0.mk (below_step (below_drew1 (Below.refl w.heap.size w)) hb1); have HS1 := Aside0.mk ((HB1.out.block f (Array.getElem?_eq_some_iff.1 HS.out).1).trans HS.out); have c51 := (blk_cell HS1.out 5).trans (rfl : _ = some (Value.slice Av l.length cv)); have c53 : ∀ o, (w1.alloc o).cell? ⟨f, 5, none⟩ = some (Value.slice Av l.length cv) := fun o => tr1 o c51; have HR1 := Aside0.mk (Kd.R_below HR.out HB1.out); have HL1 := Aside0.mk (Nat.le_trans HBw.out HB1.out.size); have HFr : Aside0 (∀ k, w1.heap.size ≤ k → k ≠ f ∧ k ≠ X) := ⟨fun k hk => ⟨fun e => by have := (Array.getElem?_eq_some_iff.1 HS1.out).1; omega, fun e => by have := HB1.out.size; have := HXl.out; omega⟩⟩; clear hb1)
   | (refine Kd.R_append_step k106 (w0 := w) (W := w1) B (by rfl) (.tmp 8) (.tmp 12) 28 106 (.agg #[.string ⟨#[]⟩, .string ⟨#[]⟩, .string ⟨#[]⟩, .bool false, .string ⟨#[]⟩, .string ⟨#[]⟩, .string ⟨#[]⟩, .string ⟨#[]⟩, .bool false]) 128 (by rfl) Try.underlying28 part_info rfl (by decide) (by omega) (.slice Av l.length cv) l (textPart j) [.string ⟨#[]⟩, .string ⟨#[]⟩, .string ⟨#[]⟩, .bool false, .string j, .string ⟨#[]⟩, .string ⟨#[]⟩, .string ⟨#[]⟩, .bool false] (fun k => k ≠ f ∧ k ≠ X) (fun _ => False) (by rfl) (by rfl) (k106_mkM _ _ _ _) (fun _ hk => hk.elim) HFr.out HR1.out (HB1.out.mono HBw.out) HL1.out (by omega) ?_; intro v1 w2 ho hb hg1 hat; obtain ⟨Aw, cw, rfl⟩ := Kd.R_slice ho; obtain ⟨hf1, hfin⟩ := bld_put HF0.out HS1.out HR1.out ho hg1; have c52 := (blk_cell hf1 5).trans (rfl : _ = some (Value.slice Av l.length cv)); have f52 := Lib.frozen_of_heap hf1 5; have HF2 := Aside0.mk hfin; have HB2 := Aside0.mk hb; have HX2 := Aside0.mk ((hg1.block X (Nat.lt_of_lt_of_le HXl.out HB1.out.size) (fun e => (HR1.out.1 X e.symm).2 rfl)).trans (HB1.out.block X HXl.out)); have HK2 := Aside0.mk ((Keeps.below (T := 106) (b := f) HB1.out).grown hg1 (Kd.R_typed HR1.out)); clear ho hb hg1 hat hfin hf1)))
 all_goals go_end0
 all_goals refine ⟨rfl, ?_, HB2.out.setCell (p := ⟨f, 5, none⟩) HF0.out _, HK2.out.set 5 _, fun e => (Below.heap_setCell _ _ _ _ e).trans HX2.out⟩
 all_goals rw [show l.length + 1 = (l ++ [textPart j]).length by simp only [List.length_append, List.length_singleton]]; exact HF2.out
end Go.Proofs.Ytfiamddinkokbaa.F
end

section
set_option linter.unusedVariables false
set_option linter.unusedSimpArgs false
namespace Go.Proofs.Ytfiamddinkokbaa.F
open Go.RowKit Go.Shelf Go.Proofs.YtfiamddinkokbaaW.PrintWords Go.Proofs.YtfiamddinkokbaaW.PrintLast Go.Proofs.YtfiamddinkokbaaW.PrintMore
attribute [local go_sem] max2_int min2_int max_two min_two max_three min_three max_four min_four
set_option linter.unusedVariables false
set_option linter.unusedSimpArgs false
def rdS (xs : List ByteArray) (i : Int) : ByteArray := rdOf ByteArray.empty xs i
theorem str_inj {a b : ByteArray} (h : a.toList = b.toList) : a = b := by
 rw [ByteArray.toList_eq, ByteArray.toList_eq] at h
 cases a; cases b
 simp only at h
 congr 1
 exact Array.toList_inj.1 h
theorem rdS_eq_iff {a b : List ByteArray} {u : Int} (h0 : 0 ≤ u) (h1 : u < a.length) (h2 : u < b.length) : rdS a u = rdS b u ↔ a[u.toNat]? = b[u.toNat]? := by
 unfold rdS rdOf
 rw [List.getD_eq_getElem?_getD, List.getD_eq_getElem?_getD, List.getElem?_eq_getElem (l := a) (by omega), List.getElem?_eq_getElem (l := b) (by omega)]
 simp
theorem rdS_rev {a : List ByteArray} {v : Int} (h0 : 0 ≤ v) (h1 : v < a.length) : rdS a ((a.length : Int) - 1 - v) = rdS a.reverse v := by
 unfold rdS rdOf
 rw [List.getD_eq_getElem?_getD, List.getD_eq_getElem?_getD, List.getElem?_reverse (by omega), show a.length - 1 - v.toNat = ((a.length : Int) - 1 - v).toNat by omega]
theorem C_str_at {w : World} {A : Option Addr} {n : Nat} {xs : List ByteArray} (h : Kd.C Kd.string w A n xs) (i : Int) (h0 : 0 ≤ i) (h1 : i < n) : ∃ ad, A = some ad ∧ w.cell? (ad.add i.toNat) = some (.string (rdS xs i)) := Kd.at_string h i h0 h1
theorem cut_CS {w : World} {A : Option Addr} {c : Nat} {xs : List ByteArray} (h : Kd.C Kd.string w A xs.length xs) (hc : xs.length ≤ c) (j : Int) (h0 : 0 ≤ j) (h1 : j ≤ xs.length) :
  ∃ (A' : Option Addr) (n' : Nat), n' = (xs.drop j.toNat).length ∧ (∀ W : World, (Instr.slice 36 (.slice A xs.length c) (some (.int .i64 j)) none none).run Try.prog W = .ok (.slice A' n' (c - j.toNat)) W) ∧ Kd.C Kd.string w A' n' (xs.drop j.toNat) := by
 obtain ⟨m, rfl⟩ := Int.eq_ofNat_of_zero_le h0
 rw [Int.toNat_natCast]
 obtain ⟨i0, hi, hz0, hz1, hz2⟩ := info_parts (show (Try.prog.info? 9).map (fun i => (i.zero, i.size, i.bytes)) = some (some (.string ⟨#[]⟩), 1, 16) by kernel_rfl)
 have hd := Kd.C_drop (m := m) h (by omega) hc
 rw [show m * Kd.string.sz = m from Nat.mul_one m] at hd
 refine ⟨if c = m then A else A.map (·.add m), _, rfl, fun W => ?_, hd⟩
 rw [List.length_drop]
 have hel : Try.prog.elem 36 = 9 := by simp [Program.elem, Try.underlying36]
 have hu : Try.prog.underlying 36 = some (.slice (Try.prog.elem 36)) := by rw [hel]; exact Try.underlying36
 rw [run_slice_l W 36 A xs.length c hu .i64 (m : Int) (Int.natCast_nonneg _) (by omega), hel]
 simp [sizeOf, typeInfo, hi, hz1, sliced, Result.andThen]
theorem reads_revS {w : World} {A : Option Addr} {n : Nat} {xs : List ByteArray} (h : Kd.C Kd.string w A n xs) (v : Int) (h0 : 0 ≤ v) (h1 : v < n) :
  ∃ ad, A = some ad ∧ w.cell? (ad.add ((n : Int) - 1 - v).toNat) = some (.string (rdS xs.reverse v)) := by
 have hn := h.1
 subst hn
 obtain ⟨ad, e, hc⟩ := C_str_at h ((xs.length : Int) - 1 - v) (by omega) (by omega)
 exact ⟨ad, e, by rw [hc, rdS_rev h0 h1]⟩
set_option maxHeartbeats 8000000 in
set_option maxRecDepth 100000 in
theorem endss_calls {A C : Option Addr} {ca cb : Nat} {xs ys : List ByteArray} {w : World} (hA : Kd.C Kd.string w A xs.length xs) (hC : Kd.C Kd.string w C ys.length ys) (hca : xs.length ≤ ca) (hcb : ys.length ≤ cb) (hx : xs.length ≤ 4000000000) (hy : ys.length ≤ 4000000000) :
  Calls Try.prog 172 #[.slice A xs.length ca, .slice C ys.length cb] w fun e w' => e = .returned (.tuple #[.int .i64 (endsN xs ys), .int .i64 (endsM xs ys)]) ∧ Drawn0 w w' := by
 have HA := Aside0.mk hA
 have HC := Aside0.mk hC
 have HCA := Aside0.mk hca
 have HCB := Aside0.mk hcb
 clear hA hC hca hcb
 by_cases hab : ys.length < xs.length
 ·have habb : decide (ys.length < xs.length) = true := decide_eq_true hab
  go_enter Try.func172, Try.ntmps172
  go_wp2
  go_loopg [6] xs.length (fun gg s6 wr => ∃ (u : Int) (q : Nat), s6 = .int .i64 u ∧ wr = w.drewN q ∧ 0 ≤ u ∧ u ≤ ys.length ∧ Aside0 (pre xs ys = u.toNat + pre (xs.drop u.toNat) (ys.drop u.toNat)) ∧ Aside0 (xs.length - u.toNat ≤ gg))
  case atStart => exact ⟨0, 0, rfl, rfl, by omega, by omega, ⟨by simp⟩, ⟨by simp⟩⟩
  case round =>
   obtain ⟨u, q, rfl, rfl, hu0, hu1, HP, HG⟩ := hrel
   have hcase : (decide (u < (ys.length : Int)) = false ∧ Aside0 (pre xs ys = u.toNat)) ∨ (u < ys.length ∧ ∃ ad bd, A = some ad ∧ C = some bd ∧ w.cell? (ad.add u.toNat) = some (.string (rdS xs u)) ∧ w.cell? (bd.add u.toNat) = some (.string (rdS ys u)) ∧
     (((rdS xs u).toList == (rdS ys u).toList) = false ∧ Aside0 (pre xs ys = u.toNat) ∨ ((rdS xs u).toList == (rdS ys u).toList) = true ∧ Aside0 (pre xs ys = (u + 1).toNat + pre (xs.drop (u + 1).toNat) (ys.drop (u + 1).toNat)))) := by
    by_cases h1 : u < ys.length
    ·right
     have h2 : u < (xs.length : Int) := by omega
     have h4 : u < (ys.length : Int) := by omega
     obtain ⟨ad, e1, hx1⟩ := C_str_at HA.out u hu0 h2
     obtain ⟨bd, e2, hx2⟩ := C_str_at HC.out u hu0 h4
     refine ⟨h1, ad, bd, e1, e2, hx1, hx2, ?_⟩
     by_cases h3 : rdS xs u = rdS ys u
     ·refine .inr ⟨beq_iff_eq.2 (congrArg ByteArray.toList h3), ⟨?_⟩⟩
      have := pre_on (a := xs) (b := ys) (u := u.toNat) (by omega) (by omega) ((rdS_eq_iff hu0 h2 h4).1 h3)
      rw [HP.out, this, show (u + 1).toNat = u.toNat + 1 by omega]; omega
     ·exact .inl ⟨beq_eq_false_iff_ne.2 (fun e => h3 (str_inj e)), ⟨by rw [HP.out, pre_off (fun h => h3 ((rdS_eq_iff hu0 h2 h4).2 h.2.2))]; rfl⟩⟩
    ·left
     exact ⟨decide_eq_false h1, ⟨by rw [HP.out, pre_off (fun h => h1 (by omega))]; rfl⟩⟩
   have hux : u ≤ (xs.length : Int) := by omega
   have huy : u ≤ (ys.length : Int) := by omega
   clear HP
   rcases hcase with ⟨h1b, HP⟩ | ⟨h1, ad, bd, rfl, rfl, hx1, hx2, ⟨h3b, HP⟩ | ⟨h3b, HP⟩⟩
   rotate_left 2
   ·have h1b : decide (u < (ys.length : Int)) = true := decide_eq_true h1
    have h2 : u < (xs.length : Int) := by omega
    have h4 : u < (ys.length : Int) := by omega
    go_wp2
    go_quiet (fail)
    go_wp2
    go_roundg (xs.length - (u + 1).toNat)
    case measure => have := HG.out; omega
    case rel => exact ⟨u + 1, q + nq, by go_num, rfl, by omega, by omega, HP, ⟨Nat.le_refl _⟩⟩
   rotate_left
   ·have h1b : decide (u < (ys.length : Int)) = true := decide_eq_true h1
    have h2 : u < (xs.length : Int) := by omega
    have h4 : u < (ys.length : Int) := by omega
    go_wp2
    go_quiet (fail)
    clear hx1 hx2 h3b h1b h1
    obtain ⟨A2, lx, hlx, hcut1, hr1⟩ := cut_CS HA.out HCA.out u hu0 hux
    obtain ⟨C2, ly, hly, hcut2, hr2⟩ := cut_CS HC.out HCB.out u hu0 huy
    have HR1 := Aside0.mk hr1
    have HLX := Aside0.mk hlx
    have HLY := Aside0.mk hly
    have HR2 := Aside0.mk hr2
    clear hr1 hr2 hlx hly
    go_wp2
    go_quiet (fail)
    clear hcut1 hcut2
    have habb2 : decide (ly < lx) = true := by rw [HLX.out, HLY.out, List.length_drop, List.length_drop]; exact decide_eq_true (by omega)
    have HPR := Aside0.mk (show endsM xs ys = pre (xs.drop u.toNat).reverse (ys.drop u.toNat).reverse by unfold endsM; rw [HP.out])
    have hlx : lx ≤ 4000000000 := by rw [HLX.out, List.length_drop]; omega
    have hly : ly ≤ 4000000000 := by rw [HLY.out, List.length_drop]; omega
    have hab2 : ly < lx := by rw [HLX.out, HLY.out, List.length_drop, List.length_drop]; omega
    have hle : ly ≤ lx := by rw [HLX.out, HLY.out, List.length_drop, List.length_drop]; omega
    have HUZ := Aside0.mk (show ((endsN xs ys : Nat) : Int) = u by unfold endsN; rw [HP.out]; omega)
    have HUU := Aside0.mk huy
    have HUV := Aside0.mk hux
    clear HP HG habb hux huy hu1
    generalize xs.drop u.toNat = xd at *
    generalize ys.drop u.toNat = yd at *
    go_wp2
    obtain ⟨q0, hq0⟩ : ∃ q0 : Nat, Aside0 (q0 = q0) := ⟨0, ⟨rfl⟩⟩
    clear hq0 q0
    go_loopg [7] lx (fun gg s7 wr => ∃ (v : Int) (q : Nat), s7 = .int .i64 v ∧ wr = w.drewN q ∧ 0 ≤ v ∧ v ≤ ly ∧ Aside0 (pre xd.reverse yd.reverse = v.toNat + pre (xd.reverse.drop v.toNat) (yd.reverse.drop v.toNat)) ∧ Aside0 (lx - v.toNat ≤ gg))
    case atStart => exact ⟨0, _, rfl, (by rw [World.drewN_drewN, World.drewN_drewN]), by omega, by omega, ⟨by simp⟩, ⟨by simp⟩⟩
    case round =>
     obtain ⟨v, q2, rfl, rfl, hv0, hv1, HP, HG⟩ := hrel
     have hcase : (decide (v < (ly : Int)) = false ∧ Aside0 (pre xd.reverse yd.reverse = v.toNat)) ∨ (v < ly ∧ ∃ ad bd, A2 = some ad ∧ C2 = some bd ∧ w.cell? (ad.add ((lx : Int) - 1 - v).toNat) = some (.string (rdS xd.reverse v)) ∧ w.cell? (bd.add ((ly : Int) - 1 - v).toNat) = some (.string (rdS yd.reverse v)) ∧
       (((rdS xd.reverse v).toList == (rdS yd.reverse v).toList) = false ∧ Aside0 (pre xd.reverse yd.reverse = v.toNat) ∨ ((rdS xd.reverse v).toList == (rdS yd.reverse v).toList) = true ∧ Aside0 (pre xd.reverse yd.reverse = (v + 1).toNat + pre (xd.reverse.drop (v + 1).toNat) (yd.reverse.drop (v + 1).toNat)))) := by
      have l1 : xd.reverse.length = lx := by rw [List.length_reverse]; exact HLX.out.symm
      have l2 : yd.reverse.length = ly := by rw [List.length_reverse]; exact HLY.out.symm
      by_cases h1 : v < ly
      ·right
       have h2 : v < (lx : Int) := by omega
       have h4 : v < (ly : Int) := by omega
       obtain ⟨ad, e1, hx1⟩ := reads_revS HR1.out v hv0 h2
       obtain ⟨bd, e2, hx2⟩ := reads_revS HR2.out v hv0 h4
       refine ⟨h1, ad, bd, e1, e2, hx1, hx2, ?_⟩
       by_cases h3 : rdS xd.reverse v = rdS yd.reverse v
       ·refine .inr ⟨beq_iff_eq.2 (congrArg ByteArray.toList h3), ⟨?_⟩⟩
        have := pre_on (a := xd.reverse) (b := yd.reverse) (u := v.toNat) (by omega) (by omega) ((rdS_eq_iff hv0 (by omega) (by omega)).1 h3)
        rw [HP.out, this, show (v + 1).toNat = v.toNat + 1 by omega]; omega
       ·exact .inl ⟨beq_eq_false_iff_ne.2 (fun e => h3 (str_inj e)), ⟨by rw [HP.out, pre_off (fun h => h3 ((rdS_eq_iff hv0 (by omega) (by omega)).2 h.2.2))]; rfl⟩⟩
      ·left
       exact ⟨decide_eq_false h1, ⟨by rw [HP.out, pre_off (fun h => h1 (by omega))]; rfl⟩⟩
     clear HP
     generalize rdS xd.reverse v = cx at hcase
     generalize rdS yd.reverse v = cy at hcase
     rcases hcase with ⟨h1b, HP⟩ | ⟨h1, ad, bd, rfl, rfl, hx1, hx2, ⟨h3b, HP⟩ | ⟨h3b, HP⟩⟩
     ·go_wp2
      go_quiet (fail)
      go_wp2
      go_ret2
      rw [HPR.out, HP.out, HUZ.out, show ((v.toNat : Nat) : Int) = v by omega]
      exact ⟨rfl, Drawn0.step ⟨⟨q2, rfl⟩⟩ _⟩
     ·have h1b : decide (v < (ly : Int)) = true := decide_eq_true h1
      have i0 : 0 ≤ (lx : Int) - 1 - v := by omega
      have i1 : (lx : Int) - 1 - v < (lx : Int) := by omega
      have i2 : 0 ≤ (ly : Int) - 1 - v := by omega
      have i3 : (ly : Int) - 1 - v < (ly : Int) := by omega
      go_wp2
      go_quiet (fail)
      go_wp2
      go_ret2
      rw [HPR.out, HP.out, HUZ.out, show ((v.toNat : Nat) : Int) = v by omega]
      exact ⟨rfl, Drawn0.step ⟨⟨q2, rfl⟩⟩ _⟩
     ·have h1b : decide (v < (ly : Int)) = true := decide_eq_true h1
      have i0 : 0 ≤ (lx : Int) - 1 - v := by omega
      have i1 : (lx : Int) - 1 - v < (lx : Int) := by omega
      have i2 : 0 ≤ (ly : Int) - 1 - v := by omega
      have i3 : (ly : Int) - 1 - v < (ly : Int) := by omega
      go_wp2
      go_quiet (fail)
      go_wp2
      go_roundg (lx - (v + 1).toNat)
      case measure => have := HG.out; omega
      case rel => exact ⟨v + 1, q2 + nq, by go_num, rfl, by omega, by omega, HP, ⟨Nat.le_refl _⟩⟩
   ·go_wp2
    go_quiet (fail)
    clear h1b
    obtain ⟨A2, lx, hlx, hcut1, hr1⟩ := cut_CS HA.out HCA.out u hu0 hux
    obtain ⟨C2, ly, hly, hcut2, hr2⟩ := cut_CS HC.out HCB.out u hu0 huy
    have HR1 := Aside0.mk hr1
    have HLX := Aside0.mk hlx
    have HLY := Aside0.mk hly
    have HR2 := Aside0.mk hr2
    clear hr1 hr2 hlx hly
    go_wp2
    go_quiet (fail)
    clear hcut1 hcut2
    have habb2 : decide (ly < lx) = true := by rw [HLX.out, HLY.out, List.length_drop, List.length_drop]; exact decide_eq_true (by omega)
    have HPR := Aside0.mk (show endsM xs ys = pre (xs.drop u.toNat).reverse (ys.drop u.toNat).reverse by unfold endsM; rw [HP.out])
    have hlx : lx ≤ 4000000000 := by rw [HLX.out, List.length_drop]; omega
    have hly : ly ≤ 4000000000 := by rw [HLY.out, List.length_drop]; omega
    have hab2 : ly < lx := by rw [HLX.out, HLY.out, List.length_drop, List.length_drop]; omega
    have hle : ly ≤ lx := by rw [HLX.out, HLY.out, List.length_drop, List.length_drop]; omega
    have HUZ := Aside0.mk (show ((endsN xs ys : Nat) : Int) = u by unfold endsN; rw [HP.out]; omega)
    have HUU := Aside0.mk huy
    have HUV := Aside0.mk hux
    clear HP HG habb hux huy hu1
    generalize xs.drop u.toNat = xd at *
    generalize ys.drop u.toNat = yd at *
    go_wp2
    obtain ⟨q0, hq0⟩ : ∃ q0 : Nat, Aside0 (q0 = q0) := ⟨0, ⟨rfl⟩⟩
    clear hq0 q0
    go_loopg [7] lx (fun gg s7 wr => ∃ (v : Int) (q : Nat), s7 = .int .i64 v ∧ wr = w.drewN q ∧ 0 ≤ v ∧ v ≤ ly ∧ Aside0 (pre xd.reverse yd.reverse = v.toNat + pre (xd.reverse.drop v.toNat) (yd.reverse.drop v.toNat)) ∧ Aside0 (lx - v.toNat ≤ gg))
    case atStart => exact ⟨0, _, rfl, (by rw [World.drewN_drewN, World.drewN_drewN]), by omega, by omega, ⟨by simp⟩, ⟨by simp⟩⟩
    case round =>
     obtain ⟨v, q2, rfl, rfl, hv0, hv1, HP, HG⟩ := hrel
     have hcase : (decide (v < (ly : Int)) = false ∧ Aside0 (pre xd.reverse yd.reverse = v.toNat)) ∨ (v < ly ∧ ∃ ad bd, A2 = some ad ∧ C2 = some bd ∧ w.cell? (ad.add ((lx : Int) - 1 - v).toNat) = some (.string (rdS xd.reverse v)) ∧ w.cell? (bd.add ((ly : Int) - 1 - v).toNat) = some (.string (rdS yd.reverse v)) ∧
       (((rdS xd.reverse v).toList == (rdS yd.reverse v).toList) = false ∧ Aside0 (pre xd.reverse yd.reverse = v.toNat) ∨ ((rdS xd.reverse v).toList == (rdS yd.reverse v).toList) = true ∧ Aside0 (pre xd.reverse yd.reverse = (v + 1).toNat + pre (xd.reverse.drop (v + 1).toNat) (yd.reverse.drop (v + 1).toNat)))) := by
      have l1 : xd.reverse.length = lx := by rw [List.length_reverse]; exact HLX.out.symm
      have l2 : yd.reverse.length = ly := by rw [List.length_reverse]; exact HLY.out.symm
      by_cases h1 : v < ly
      ·right
       have h2 : v < (lx : Int) := by omega
       have h4 : v < (ly : Int) := by omega
       obtain ⟨ad, e1, hx1⟩ := reads_revS HR1.out v hv0 h2
       obtain ⟨bd, e2, hx2⟩ := reads_revS HR2.out v hv0 h4
       refine ⟨h1, ad, bd, e1, e2, hx1, hx2, ?_⟩
       by_cases h3 : rdS xd.reverse v = rdS yd.reverse v
       ·refine .inr ⟨beq_iff_eq.2 (congrArg ByteArray.toList h3), ⟨?_⟩⟩
        have := pre_on (a := xd.reverse) (b := yd.reverse) (u := v.toNat) (by omega) (by omega) ((rdS_eq_iff hv0 (by omega) (by omega)).1 h3)
        rw [HP.out, this, show (v + 1).toNat = v.toNat + 1 by omega]; omega
       ·exact .inl ⟨beq_eq_false_iff_ne.2 (fun e => h3 (str_inj e)), ⟨by rw [HP.out, pre_off (fun h => h3 ((rdS_eq_iff hv0 (by omega) (by omega)).2 h.2.2))]; rfl⟩⟩
      ·left
       exact ⟨decide_eq_false h1, ⟨by rw [HP.out, pre_off (fun h => h1 (by omega))]; rfl⟩⟩
     clear HP
     generalize rdS xd.reverse v = cx at hcase
     generalize rdS yd.reverse v = cy at hcase
     rcases hcase with ⟨h1b, HP⟩ | ⟨h1, ad, bd, rfl, rfl, hx1, hx2, ⟨h3b, HP⟩ | ⟨h3b, HP⟩⟩
     ·go_wp2
      go_quiet (fail)
      go_wp2
      go_ret2
      rw [HPR.out, HP.out, HUZ.out, show ((v.toNat : Nat) : Int) = v by omega]
      exact ⟨rfl, Drawn0.step ⟨⟨q2, rfl⟩⟩ _⟩
     ·have h1b : decide (v < (ly : Int)) = true := decide_eq_true h1
      have i0 : 0 ≤ (lx : Int) - 1 - v := by omega
      have i1 : (lx : Int) - 1 - v < (lx : Int) := by omega
      have i2 : 0 ≤ (ly : Int) - 1 - v := by omega
      have i3 : (ly : Int) - 1 - v < (ly : Int) := by omega
      go_wp2
      go_quiet (fail)
      go_wp2
      go_ret2
      rw [HPR.out, HP.out, HUZ.out, show ((v.toNat : Nat) : Int) = v by omega]
      exact ⟨rfl, Drawn0.step ⟨⟨q2, rfl⟩⟩ _⟩
     ·have h1b : decide (v < (ly : Int)) = true := decide_eq_true h1
      have i0 : 0 ≤ (lx : Int) - 1 - v := by omega
      have i1 : (lx : Int) - 1 - v < (lx : Int) := by omega
      have i2 : 0 ≤ (ly : Int) - 1 - v := by omega
      have i3 : (ly : Int) - 1 - v < (ly : Int) := by omega
      go_wp2
      go_quiet (fail)
      go_wp2
      go_roundg (lx - (v + 1).toNat)
      case measure => have := HG.out; omega
      case rel => exact ⟨v + 1, q2 + nq, by go_num, rfl, by omega, by omega, HP, ⟨Nat.le_refl _⟩⟩
 ·have habb : decide (ys.length < xs.length) = false := decide_eq_false hab
  go_enter Try.func172, Try.ntmps172
  go_wp2
  go_loopg [6] xs.length (fun gg s6 wr => ∃ (u : Int) (q : Nat), s6 = .int .i64 u ∧ wr = w.drewN q ∧ 0 ≤ u ∧ u ≤ xs.length ∧ Aside0 (pre xs ys = u.toNat + pre (xs.drop u.toNat) (ys.drop u.toNat)) ∧ Aside0 (xs.length - u.toNat ≤ gg))
  case atStart => exact ⟨0, 0, rfl, rfl, by omega, by omega, ⟨by simp⟩, ⟨by simp⟩⟩
  case round =>
   obtain ⟨u, q, rfl, rfl, hu0, hu1, HP, HG⟩ := hrel
   have hcase : (decide (u < (xs.length : Int)) = false ∧ Aside0 (pre xs ys = u.toNat)) ∨ (u < xs.length ∧ ∃ ad bd, A = some ad ∧ C = some bd ∧ w.cell? (ad.add u.toNat) = some (.string (rdS xs u)) ∧ w.cell? (bd.add u.toNat) = some (.string (rdS ys u)) ∧
     (((rdS xs u).toList == (rdS ys u).toList) = false ∧ Aside0 (pre xs ys = u.toNat) ∨ ((rdS xs u).toList == (rdS ys u).toList) = true ∧ Aside0 (pre xs ys = (u + 1).toNat + pre (xs.drop (u + 1).toNat) (ys.drop (u + 1).toNat)))) := by
    by_cases h1 : u < xs.length
    ·right
     have h2 : u < (xs.length : Int) := by omega
     have h4 : u < (ys.length : Int) := by omega
     obtain ⟨ad, e1, hx1⟩ := C_str_at HA.out u hu0 h2
     obtain ⟨bd, e2, hx2⟩ := C_str_at HC.out u hu0 h4
     refine ⟨h1, ad, bd, e1, e2, hx1, hx2, ?_⟩
     by_cases h3 : rdS xs u = rdS ys u
     ·refine .inr ⟨beq_iff_eq.2 (congrArg ByteArray.toList h3), ⟨?_⟩⟩
      have := pre_on (a := xs) (b := ys) (u := u.toNat) (by omega) (by omega) ((rdS_eq_iff hu0 h2 h4).1 h3)
      rw [HP.out, this, show (u + 1).toNat = u.toNat + 1 by omega]; omega
     ·exact .inl ⟨beq_eq_false_iff_ne.2 (fun e => h3 (str_inj e)), ⟨by rw [HP.out, pre_off (fun h => h3 ((rdS_eq_iff hu0 h2 h4).2 h.2.2))]; rfl⟩⟩
    ·left
     exact ⟨decide_eq_false h1, ⟨by rw [HP.out, pre_off (fun h => h1 (by omega))]; rfl⟩⟩
   have hux : u ≤ (xs.length : Int) := by omega
   have huy : u ≤ (ys.length : Int) := by omega
   clear HP
   rcases hcase with ⟨h1b, HP⟩ | ⟨h1, ad, bd, rfl, rfl, hx1, hx2, ⟨h3b, HP⟩ | ⟨h3b, HP⟩⟩
   rotate_left 2
   ·have h1b : decide (u < (xs.length : Int)) = true := decide_eq_true h1
    have h2 : u < (xs.length : Int) := by omega
    have h4 : u < (ys.length : Int) := by omega
    go_wp2
    go_quiet (fail)
    go_wp2
    go_roundg (xs.length - (u + 1).toNat)
    case measure => have := HG.out; omega
    case rel => exact ⟨u + 1, q + nq, by go_num, rfl, by omega, by omega, HP, ⟨Nat.le_refl _⟩⟩
   rotate_left
   ·have h1b : decide (u < (xs.length : Int)) = true := decide_eq_true h1
    have h2 : u < (xs.length : Int) := by omega
    have h4 : u < (ys.length : Int) := by omega
    go_wp2
    go_quiet (fail)
    clear hx1 hx2 h3b h1b h1
    obtain ⟨A2, lx, hlx, hcut1, hr1⟩ := cut_CS HA.out HCA.out u hu0 hux
    obtain ⟨C2, ly, hly, hcut2, hr2⟩ := cut_CS HC.out HCB.out u hu0 huy
    have HR1 := Aside0.mk hr1
    have HLX := Aside0.mk hlx
    have HLY := Aside0.mk hly
    have HR2 := Aside0.mk hr2
    clear hr1 hr2 hlx hly
    go_wp2
    go_quiet (fail)
    clear hcut1 hcut2
    have habb2 : decide (ly < lx) = false := by rw [HLX.out, HLY.out, List.length_drop, List.length_drop]; exact decide_eq_false (by omega)
    have HPR := Aside0.mk (show endsM xs ys = pre (xs.drop u.toNat).reverse (ys.drop u.toNat).reverse by unfold endsM; rw [HP.out])
    have hlx : lx ≤ 4000000000 := by rw [HLX.out, List.length_drop]; omega
    have hly : ly ≤ 4000000000 := by rw [HLY.out, List.length_drop]; omega
    have hab2 : ¬ ly < lx := by rw [HLX.out, HLY.out, List.length_drop, List.length_drop]; omega
    have hle : lx ≤ ly := by rw [HLX.out, HLY.out, List.length_drop, List.length_drop]; omega
    have HUZ := Aside0.mk (show ((endsN xs ys : Nat) : Int) = u by unfold endsN; rw [HP.out]; omega)
    have HUU := Aside0.mk huy
    have HUV := Aside0.mk hux
    clear HP HG habb hux huy hu1
    generalize xs.drop u.toNat = xd at *
    generalize ys.drop u.toNat = yd at *
    go_wp2
    obtain ⟨q0, hq0⟩ : ∃ q0 : Nat, Aside0 (q0 = q0) := ⟨0, ⟨rfl⟩⟩
    clear hq0 q0
    go_loopg [7] lx (fun gg s7 wr => ∃ (v : Int) (q : Nat), s7 = .int .i64 v ∧ wr = w.drewN q ∧ 0 ≤ v ∧ v ≤ lx ∧ Aside0 (pre xd.reverse yd.reverse = v.toNat + pre (xd.reverse.drop v.toNat) (yd.reverse.drop v.toNat)) ∧ Aside0 (lx - v.toNat ≤ gg))
    case atStart => exact ⟨0, _, rfl, (by rw [World.drewN_drewN, World.drewN_drewN]), by omega, by omega, ⟨by simp⟩, ⟨by simp⟩⟩
    case round =>
     obtain ⟨v, q2, rfl, rfl, hv0, hv1, HP, HG⟩ := hrel
     have hcase : (decide (v < (lx : Int)) = false ∧ Aside0 (pre xd.reverse yd.reverse = v.toNat)) ∨ (v < lx ∧ ∃ ad bd, A2 = some ad ∧ C2 = some bd ∧ w.cell? (ad.add ((lx : Int) - 1 - v).toNat) = some (.string (rdS xd.reverse v)) ∧ w.cell? (bd.add ((ly : Int) - 1 - v).toNat) = some (.string (rdS yd.reverse v)) ∧
       (((rdS xd.reverse v).toList == (rdS yd.reverse v).toList) = false ∧ Aside0 (pre xd.reverse yd.reverse = v.toNat) ∨ ((rdS xd.reverse v).toList == (rdS yd.reverse v).toList) = true ∧ Aside0 (pre xd.reverse yd.reverse = (v + 1).toNat + pre (xd.reverse.drop (v + 1).toNat) (yd.reverse.drop (v + 1).toNat)))) := by
      have l1 : xd.reverse.length = lx := by rw [List.length_reverse]; exact HLX.out.symm
      have l2 : yd.reverse.length = ly := by rw [List.length_reverse]; exact HLY.out.symm
      by_cases h1 : v < lx
      ·right
       have h2 : v < (lx : Int) := by omega
       have h4 : v < (ly : Int) := by omega
       obtain ⟨ad, e1, hx1⟩ := reads_revS HR1.out v hv0 h2
       obtain ⟨bd, e2, hx2⟩ := reads_revS HR2.out v hv0 h4
       refine ⟨h1, ad, bd, e1, e2, hx1, hx2, ?_⟩
       by_cases h3 : rdS xd.reverse v = rdS yd.reverse v
       ·refine .inr ⟨beq_iff_eq.2 (congrArg ByteArray.toList h3), ⟨?_⟩⟩
        have := pre_on (a := xd.reverse) (b := yd.reverse) (u := v.toNat) (by omega) (by omega) ((rdS_eq_iff hv0 (by omega) (by omega)).1 h3)
        rw [HP.out, this, show (v + 1).toNat = v.toNat + 1 by omega]; omega
       ·exact .inl ⟨beq_eq_false_iff_ne.2 (fun e => h3 (str_inj e)), ⟨by rw [HP.out, pre_off (fun h => h3 ((rdS_eq_iff hv0 (by omega) (by omega)).2 h.2.2))]; rfl⟩⟩
      ·left
       exact ⟨decide_eq_false h1, ⟨by rw [HP.out, pre_off (fun h => h1 (by omega))]; rfl⟩⟩
     clear HP
     generalize rdS xd.reverse v = cx at hcase
     generalize rdS yd.reverse v = cy at hcase
     rcases hcase with ⟨h1b, HP⟩ | ⟨h1, ad, bd, rfl, rfl, hx1, hx2, ⟨h3b, HP⟩ | ⟨h3b, HP⟩⟩
     ·go_wp2
      go_quiet (fail)
      go_wp2
      go_ret2
      rw [HPR.out, HP.out, HUZ.out, show ((v.toNat : Nat) : Int) = v by omega]
      exact ⟨rfl, Drawn0.step ⟨⟨q2, rfl⟩⟩ _⟩
     ·have h1b : decide (v < (lx : Int)) = true := decide_eq_true h1
      have i0 : 0 ≤ (lx : Int) - 1 - v := by omega
      have i1 : (lx : Int) - 1 - v < (lx : Int) := by omega
      have i2 : 0 ≤ (ly : Int) - 1 - v := by omega
      have i3 : (ly : Int) - 1 - v < (ly : Int) := by omega
      go_wp2
      go_quiet (fail)
      go_wp2
      go_ret2
      rw [HPR.out, HP.out, HUZ.out, show ((v.toNat : Nat) : Int) = v by omega]
      exact ⟨rfl, Drawn0.step ⟨⟨q2, rfl⟩⟩ _⟩
     ·have h1b : decide (v < (lx : Int)) = true := decide_eq_true h1
      have i0 : 0 ≤ (lx : Int) - 1 - v := by omega
      have i1 : (lx : Int) - 1 - v < (lx : Int) := by omega
      have i2 : 0 ≤ (ly : Int) - 1 - v := by omega
      have i3 : (ly : Int) - 1 - v < (ly : Int) := by omega
      go_wp2
      go_quiet (fail)
      go_wp2
      go_roundg (lx - (v + 1).toNat)
      case measure => have := HG.out; omega
      case rel => exact ⟨v + 1, q2 + nq, by go_num, rfl, by omega, by omega, HP, ⟨Nat.le_refl _⟩⟩
   ·go_wp2
    go_quiet (fail)
    clear h1b
    obtain ⟨A2, lx, hlx, hcut1, hr1⟩ := cut_CS HA.out HCA.out u hu0 hux
    obtain ⟨C2, ly, hly, hcut2, hr2⟩ := cut_CS HC.out HCB.out u hu0 huy
    have HR1 := Aside0.mk hr1
    have HLX := Aside0.mk hlx
    have HLY := Aside0.mk hly
    have HR2 := Aside0.mk hr2
    clear hr1 hr2 hlx hly
    go_wp2
    go_quiet (fail)
    clear hcut1 hcut2
    have habb2 : decide (ly < lx) = false := by rw [HLX.out, HLY.out, List.length_drop, List.length_drop]; exact decide_eq_false (by omega)
    have HPR := Aside0.mk (show endsM xs ys = pre (xs.drop u.toNat).reverse (ys.drop u.toNat).reverse by unfold endsM; rw [HP.out])
    have hlx : lx ≤ 4000000000 := by rw [HLX.out, List.length_drop]; omega
    have hly : ly ≤ 4000000000 := by rw [HLY.out, List.length_drop]; omega
    have hab2 : ¬ ly < lx := by rw [HLX.out, HLY.out, List.length_drop, List.length_drop]; omega
    have hle : lx ≤ ly := by rw [HLX.out, HLY.out, List.length_drop, List.length_drop]; omega
    have HUZ := Aside0.mk (show ((endsN xs ys : Nat) : Int) = u by unfold endsN; rw [HP.out]; omega)
    have HUU := Aside0.mk huy
    have HUV := Aside0.mk hux
    clear HP HG habb hux huy hu1
    generalize xs.drop u.toNat = xd at *
    generalize ys.drop u.toNat = yd at *
    go_wp2
    obtain ⟨q0, hq0⟩ : ∃ q0 : Nat, Aside0 (q0 = q0) := ⟨0, ⟨rfl⟩⟩
    clear hq0 q0
    go_loopg [7] lx (fun gg s7 wr => ∃ (v : Int) (q : Nat), s7 = .int .i64 v ∧ wr = w.drewN q ∧ 0 ≤ v ∧ v ≤ lx ∧ Aside0 (pre xd.reverse yd.reverse = v.toNat + pre (xd.reverse.drop v.toNat) (yd.reverse.drop v.toNat)) ∧ Aside0 (lx - v.toNat ≤ gg))
    case atStart => exact ⟨0, _, rfl, (by rw [World.drewN_drewN, World.drewN_drewN]), by omega, by omega, ⟨by simp⟩, ⟨by simp⟩⟩
    case round =>
     obtain ⟨v, q2, rfl, rfl, hv0, hv1, HP, HG⟩ := hrel
     have hcase : (decide (v < (lx : Int)) = false ∧ Aside0 (pre xd.reverse yd.reverse = v.toNat)) ∨ (v < lx ∧ ∃ ad bd, A2 = some ad ∧ C2 = some bd ∧ w.cell? (ad.add ((lx : Int) - 1 - v).toNat) = some (.string (rdS xd.reverse v)) ∧ w.cell? (bd.add ((ly : Int) - 1 - v).toNat) = some (.string (rdS yd.reverse v)) ∧
       (((rdS xd.reverse v).toList == (rdS yd.reverse v).toList) = false ∧ Aside0 (pre xd.reverse yd.reverse = v.toNat) ∨ ((rdS xd.reverse v).toList == (rdS yd.reverse v).toList) = true ∧ Aside0 (pre xd.reverse yd.reverse = (v + 1).toNat + pre (xd.reverse.drop (v + 1).toNat) (yd.reverse.drop (v + 1).toNat)))) := by
      have l1 : xd.reverse.length = lx := by rw [List.length_reverse]; exact HLX.out.symm
      have l2 : yd.reverse.length = ly := by rw [List.length_reverse]; exact HLY.out.symm
      by_cases h1 : v < lx
      ·right
       have h2 : v < (lx : Int) := by omega
       have h4 : v < (ly : Int) := by omega
       obtain ⟨ad, e1, hx1⟩ := reads_revS HR1.out v hv0 h2
       obtain ⟨bd, e2, hx2⟩ := reads_revS HR2.out v hv0 h4
       refine ⟨h1, ad, bd, e1, e2, hx1, hx2, ?_⟩
       by_cases h3 : rdS xd.reverse v = rdS yd.reverse v
       ·refine .inr ⟨beq_iff_eq.2 (congrArg ByteArray.toList h3), ⟨?_⟩⟩
        have := pre_on (a := xd.reverse) (b := yd.reverse) (u := v.toNat) (by omega) (by omega) ((rdS_eq_iff hv0 (by omega) (by omega)).1 h3)
        rw [HP.out, this, show (v + 1).toNat = v.toNat + 1 by omega]; omega
       ·exact .inl ⟨beq_eq_false_iff_ne.2 (fun e => h3 (str_inj e)), ⟨by rw [HP.out, pre_off (fun h => h3 ((rdS_eq_iff hv0 (by omega) (by omega)).2 h.2.2))]; rfl⟩⟩
      ·left
       exact ⟨decide_eq_false h1, ⟨by rw [HP.out, pre_off (fun h => h1 (by omega))]; rfl⟩⟩
     clear HP
     generalize rdS xd.reverse v = cx at hcase
     generalize rdS yd.reverse v = cy at hcase
     rcases hcase with ⟨h1b, HP⟩ | ⟨h1, ad, bd, rfl, rfl, hx1, hx2, ⟨h3b, HP⟩ | ⟨h3b, HP⟩⟩
     ·go_wp2
      go_quiet (fail)
      go_wp2
      go_ret2
      rw [HPR.out, HP.out, HUZ.out, show ((v.toNat : Nat) : Int) = v by omega]
      exact ⟨rfl, Drawn0.step ⟨⟨q2, rfl⟩⟩ _⟩
     ·have h1b : decide (v < (lx : Int)) = true := decide_eq_true h1
      have i0 : 0 ≤ (lx : Int) - 1 - v := by omega
      have i1 : (lx : Int) - 1 - v < (lx : Int) := by omega
      have i2 : 0 ≤ (ly : Int) - 1 - v := by omega
      have i3 : (ly : Int) - 1 - v < (ly : Int) := by omega
      go_wp2
      go_quiet (fail)
      go_wp2
      go_ret2
      rw [HPR.out, HP.out, HUZ.out, show ((v.toNat : Nat) : Int) = v by omega]
      exact ⟨rfl, Drawn0.step ⟨⟨q2, rfl⟩⟩ _⟩
     ·have h1b : decide (v < (lx : Int)) = true := decide_eq_true h1
      have i0 : 0 ≤ (lx : Int) - 1 - v := by omega
      have i1 : (lx : Int) - 1 - v < (lx : Int) := by omega
      have i2 : 0 ≤ (ly : Int) - 1 - v := by omega
      have i3 : (ly : Int) - 1 - v < (ly : Int) := by omega
      go_wp2
      go_quiet (fail)
      go_wp2
      go_roundg (lx - (v + 1).toNat)
      case measure => have := HG.out; omega
      case rel => exact ⟨v + 1, q2 + nq, by go_num, rfl, by omega, by omega, HP, ⟨Nat.le_refl _⟩⟩
end Go.Proofs.Ytfiamddinkokbaa.F
end

section
set_option linter.unusedVariables false
set_option linter.unusedSimpArgs false
namespace Go.Proofs.Ytfiamddinkokbaa.F
open Go.RowKit Go.Shelf Go.Proofs.YtfiamddinkokbaaW.PrintWords
set_option linter.unusedVariables false
set_option linter.unusedSimpArgs false
set_option maxHeartbeats 4000000 in
set_option maxRecDepth 100000 in
theorem hoist_calls {A C : Option Addr} {ca cb : Nat} {xs ys : List ByteArray} {w : World} (hA : Kd.C Kd.string w A xs.length xs) (hC : Kd.C Kd.string w C ys.length ys) (hca : xs.length ≤ ca) (hcb : ys.length ≤ cb) (hx : xs.length ≤ 4000000000) (hy : ys.length ≤ 4000000000) :
  Calls Try.prog 168 #[.slice A xs.length ca, .slice C ys.length cb] w fun e w' => e = .returned (.tuple #[.int .i64 (endsN xs ys), .int .i64 (endsM xs ys)]) ∧ Drawn0 w w' := by
 have H := endss_calls hA hC hca hcb hx hy
 clear hA hC hca hcb hx hy
 go_enter Try.func168, Try.ntmps168
 go_wp2_with (first | (go_at_call 172; refine H.mono ?_; rintro e w1 ⟨rfl, hd⟩; have HD := Aside0.mk hd; clear hd))
 go_ret2
 exact ⟨rfl, HD.out⟩
end Go.Proofs.Ytfiamddinkokbaa.F
end

section
set_option linter.unusedVariables false
set_option linter.unusedSimpArgs false
namespace Go.Proofs.Ytfiamddinkokbaa.F
open Go.RowKit Go.Shelf Go.Proofs.YtfiamddinkokbaaW.PrintWords
set_option linter.unusedVariables false
set_option linter.unusedSimpArgs false
def midS (xs : List ByteArray) (n m : Nat) : List ByteArray := (xs.take (xs.length - m)).drop n
theorem str_info : (Try.prog.info? 9).map (fun i => (i.zero, i.size, i.bytes)) = some (some (.string ⟨#[]⟩), 1, 16) := by kernel_rfl
theorem cut_CSm {w : World} {A : Option Addr} {c : Nat} {xs : List ByteArray} (h : Kd.C Kd.string w A xs.length xs) (hc : xs.length ≤ c) (n m : Nat) (h0 : n + m ≤ xs.length) :
  ∃ (A' : Option Addr) (n' : Nat), n' = (midS xs n m).length ∧ (∀ W : World, (Instr.slice 36 (.slice A xs.length c) (some (.int .i64 (n : Int))) (some (.int .i64 ((xs.length : Int) - (m : Int)))) none).run Try.prog W = .ok (.slice A' n' (c - n)) W) ∧ Kd.C Kd.string w A' n' (midS xs n m) ∧ n' ≤ c - n := by
 obtain ⟨i0, hi, hz0, hz1, hz2⟩ := info_parts str_info
 have hcut := cut_mid (P := Try.prog) 36 9 .i64 .i64 Try.underlying36 hi 1 hz1 A xs.length c (n : Int) ((xs.length : Int) - (m : Int)) (by omega) (by omega) (by omega) hc
 have hm := Kd.C_mid (lo := n) (hi := xs.length - m) h (by omega) (by omega) hc
 have hl : ((xs.length : Int) - (m : Int)).toNat - (n : Int).toNat = (midS xs n m).length := by unfold midS; rw [List.length_drop, List.length_take]; omega
 refine ⟨if c = n then A else A.map (·.add (n * 1)), _, rfl, fun W => ?_, ?_, ?_⟩
 ·rw [hcut W, hl, Int.toNat_natCast]
 ·exact hm
 ·rw [← hl]; omega
theorem cut_CSt {w : World} {A : Option Addr} {c : Nat} {xs : List ByteArray} (h : Kd.C Kd.string w A xs.length xs) (hc : xs.length ≤ c) (n : Nat) (h0 : n ≤ xs.length) :
  (∀ W : World, (Instr.slice 36 (.slice A xs.length c) none (some (.int .i64 (n : Int))) none).run Try.prog W = .ok (.slice A (xs.take n).length c) W) ∧ Kd.C Kd.string w A (xs.take n).length (xs.take n) ∧ (xs.take n).length ≤ c := by
 obtain ⟨i0, hi, hz0, hz1, hz2⟩ := info_parts str_info
 have hcut := cut_to (P := Try.prog) 36 9 .i64 Try.underlying36 hi A xs.length c (n : Int) (by omega) (by omega) hc
 have hl : (xs.take n).length = n := by rw [List.length_take]; omega
 refine ⟨fun W => by rw [hcut W, hl, Int.toNat_natCast], ?_, by omega⟩
 have := Kd.C_take h h0
 exact this
theorem cut_CSf {K : World → Prop} {A : Option Addr} {c : Nat} {xs : List ByteArray} (h : ∀ w, K w → Kd.C Kd.string w A xs.length xs) (hc : xs.length ≤ c) (m : Nat) (h0 : m ≤ xs.length) :
  ∃ A' : Option Addr, (∀ W : World, (Instr.slice 36 (.slice A xs.length c) (some (.int .i64 ((xs.length : Int) - (m : Int)))) none none).run Try.prog W = .ok (.slice A' (xs.drop (xs.length - m)).length (c - (xs.length - m))) W) ∧ (∀ w, K w → Kd.C Kd.string w A' (xs.drop (xs.length - m)).length (xs.drop (xs.length - m))) ∧ (xs.drop (xs.length - m)).length ≤ c - (xs.length - m) := by
 obtain ⟨i0, hi, hz0, hz1, hz2⟩ := info_parts str_info
 have hcut := cut_from (P := Try.prog) 36 9 .i64 Try.underlying36 hi 1 hz1 A xs.length c ((xs.length : Int) - (m : Int)) (by omega) (by omega)
 have hl : xs.length - ((xs.length : Int) - (m : Int)).toNat = (xs.drop (xs.length - m)).length := by rw [List.length_drop]; omega
 have ht : ((xs.length : Int) - (m : Int)).toNat = xs.length - m := by omega
 refine ⟨if c = xs.length - m then A else A.map (·.add ((xs.length - m) * 1)), fun W => ?_, fun w hk => ?_, ?_⟩
 ·rw [hcut W, hl, ht]
 ·exact Kd.C_drop (m := xs.length - m) (h w hk) (by omega) hc
 ·rw [List.length_drop]; omega
theorem ends_le' (xs ys : List ByteArray) : endsN xs ys + endsM xs ys ≤ xs.length ∧ endsN xs ys + endsM xs ys ≤ ys.length := by
 have h1 := pre_le xs ys
 have h2 := pre_le (xs.drop (pre xs ys)).reverse (ys.drop (pre xs ys)).reverse
 rw [List.length_reverse, List.length_reverse, List.length_drop, List.length_drop] at h2
 unfold endsN endsM
 omega
def hoN (st : Int) (xs ys : List ByteArray) : Nat := if st = 2 then endsN xs ys else 0
def hoM (st : Int) (xs ys : List ByteArray) : Nat := if st = 2 then endsM xs ys else 0
theorem Bld.c0 {B f X : Nat} {g0 g1 g2 : ByteArray} {st fv : Int} {l : List PP} {w : World} (h : Bld B f X g0 g1 g2 st fv l w) : w.cell? ⟨f, 0, none⟩ = some (.string g0) := by obtain ⟨v, _, h, _⟩ := h; exact (blk_cell h 0).trans rfl
theorem Bld.c1 {B f X : Nat} {g0 g1 g2 : ByteArray} {st fv : Int} {l : List PP} {w : World} (h : Bld B f X g0 g1 g2 st fv l w) : w.cell? ⟨f, 1, none⟩ = some (.string g1) := by obtain ⟨v, _, h, _⟩ := h; exact (blk_cell h 1).trans rfl
theorem Bld.c2 {B f X : Nat} {g0 g1 g2 : ByteArray} {st fv : Int} {l : List PP} {w : World} (h : Bld B f X g0 g1 g2 st fv l w) : w.cell? ⟨f, 2, none⟩ = some (.string g2) := by obtain ⟨v, _, h, _⟩ := h; exact (blk_cell h 2).trans rfl
theorem Bld.c3 {B f X : Nat} {g0 g1 g2 : ByteArray} {st fv : Int} {l : List PP} {w : World} (h : Bld B f X g0 g1 g2 st fv l w) : w.cell? ⟨f, 3, none⟩ = some (.int .i64 st) := by obtain ⟨v, _, h, _⟩ := h; exact (blk_cell h 3).trans rfl
theorem Bld.c4 {B f X : Nat} {g0 g1 g2 : ByteArray} {st fv : Int} {l : List PP} {w : World} (h : Bld B f X g0 g1 g2 st fv l w) : w.cell? ⟨f, 4, none⟩ = some (.int .i64 fv) := by obtain ⟨v, _, h, _⟩ := h; exact (blk_cell h 4).trans rfl
theorem ho_le (st : Int) (xs ys : List ByteArray) : hoN st xs ys + hoM st xs ys ≤ xs.length ∧ hoN st xs ys + hoM st xs ys ≤ ys.length := by
 unfold hoN hoM
 by_cases h : st = 2
 ·rw [if_pos h, if_pos h]; exact ends_le' xs ys
 ·rw [if_neg h, if_neg h]; omega
theorem keep5 {W0 W w' : World} {a b c d e : Addr} {va vb vc vd ve : Value} (hb : Below W.heap.size W w') (h : W.cell? a = some va ∧ W.cell? b = some vb ∧ W.cell? c = some vc ∧ W.cell? d = some vd ∧ W.cell? e = some ve ∧ Below W0.heap.size W0 W) :
  w'.cell? a = some va ∧ w'.cell? b = some vb ∧ w'.cell? c = some vc ∧ w'.cell? d = some vd ∧ w'.cell? e = some ve ∧ Below W0.heap.size W0 w' := by
 obtain ⟨h1, h2, h3, h4, h5, h6⟩ := h
 exact ⟨(hb.cell (World.block_lt_of_cell? W _ h1)).trans h1, (hb.cell (World.block_lt_of_cell? W _ h2)).trans h2, (hb.cell (World.block_lt_of_cell? W _ h3)).trans h3, (hb.cell (World.block_lt_of_cell? W _ h4)).trans h4, (hb.cell (World.block_lt_of_cell? W _ h5)).trans h5, below_step h6 hb⟩
theorem below_set9 {B k : Nat} {W0 W : World} (hb : Below B W0 W) (hk : B ≤ k) (v0 v1 v2 v3 v4 v5 v6 v7 v8 : Value) : Below B W0 (((((((((W.setCell ⟨k, 0, none⟩ v0).setCell ⟨k, 1, none⟩ v1).setCell ⟨k, 2, none⟩ v2).setCell ⟨k, 3, none⟩ v3).setCell ⟨k, 4, none⟩ v4).setCell ⟨k, 5, none⟩ v5).setCell ⟨k, 6, none⟩ v6).setCell ⟨k, 7, none⟩ v7).setCell ⟨k, 8, none⟩ v8) := (((((((((hb.setCell (p := ⟨k, 0, none⟩) hk v0).setCell (p := ⟨k, 1, none⟩) hk v1).setCell (p := ⟨k, 2, none⟩) hk v2).setCell (p := ⟨k, 3, none⟩) hk v3).setCell (p := ⟨k, 4, none⟩) hk v4).setCell (p := ⟨k, 5, none⟩) hk v5).setCell (p := ⟨k, 6, none⟩) hk v6).setCell (p := ⟨k, 7, none⟩) hk v7).setCell (p := ⟨k, 8, none⟩) hk v8)
theorem block_set9 {k : Nat} {T : TypeId} {W : World} {u0 u1 u2 u3 u4 u5 u6 u7 u8 : Value} (h : W.heap[k]? = some (.cells #[u0, u1, u2, u3, u4, u5, u6, u7, u8] T (0, 0))) (v0 v1 v2 v3 v4 v5 v6 v7 v8 : Value) : (((((((((W.setCell ⟨k, 0, none⟩ v0).setCell ⟨k, 1, none⟩ v1).setCell ⟨k, 2, none⟩ v2).setCell ⟨k, 3, none⟩ v3).setCell ⟨k, 4, none⟩ v4).setCell ⟨k, 5, none⟩ v5).setCell ⟨k, 6, none⟩ v6).setCell ⟨k, 7, none⟩ v7).setCell ⟨k, 8, none⟩ v8).heap[k]? = some (.cells #[v0, v1, v2, v3, v4, v5, v6, v7, v8] T (0, 0)) := by
 simp [World.setCell, Array.getElem?_modify, h]
theorem after_alloc {W w1 : World} {cs : Array Value} {t : TypeId} (hb : Below (W.alloc (.cells cs t)).heap.size (W.alloc (.cells cs t)) w1) : w1.heap[W.heap.size]? = some (.cells cs t (0, 0)) :=
 (hb.block _ (by rw [World.size_alloc]; omega)).trans (World.alloc_heap_new W _)
theorem after_alloc_drew {W w1 : World} {cs : Array Value} {t : TypeId} (hb : Below (W.alloc (.cells cs t)).drew.heap.size (W.alloc (.cells cs t)).drew w1) : w1.heap[W.heap.size]? = some (.cells cs t (0, 0)) := after_alloc (W := W) (w1 := w1) (below_step (below_drew1 (Below.refl _ _)) hb)
theorem after_call {W w1 : World} {k : Nat} {o : Obj} (hb : Below W.heap.size W w1) (h : W.heap[k]? = some o) : w1.heap[k]? = some o :=
 (hb.block _ (Array.getElem?_eq_some_iff.1 h).1).trans h
theorem zero_facts {w : World} {k : Nat} (h : w.heap[k]? = some (.cells #[.string ⟨#[]⟩, .string ⟨#[]⟩, .string ⟨#[]⟩, .bool false, .string ⟨#[]⟩, .string ⟨#[]⟩, .string ⟨#[]⟩, .string ⟨#[]⟩, .bool false] 106 (0, 0))) : w.cell? ⟨k, 0, none⟩ = some (.string ⟨#[]⟩) ∧ w.cell? ⟨k, 1, none⟩ = some (.string ⟨#[]⟩) ∧ w.cell? ⟨k, 2, none⟩ = some (.string ⟨#[]⟩) ∧ w.cell? ⟨k, 3, none⟩ = some (.bool false) ∧ w.cell? ⟨k, 4, none⟩ = some (.string ⟨#[]⟩) ∧ w.cell? ⟨k, 5, none⟩ = some (.string ⟨#[]⟩) ∧ w.cell? ⟨k, 6, none⟩ = some (.string ⟨#[]⟩) ∧ w.cell? ⟨k, 7, none⟩ = some (.string ⟨#[]⟩) ∧ w.cell? ⟨k, 8, none⟩ = some (.bool false) ∧ w.frozen? ⟨k, 0, none⟩ = false ∧ w.frozen? ⟨k, 1, none⟩ = false ∧ w.frozen? ⟨k, 2, none⟩ = false ∧ w.frozen? ⟨k, 3, none⟩ = false ∧ w.frozen? ⟨k, 4, none⟩ = false ∧ w.frozen? ⟨k, 5, none⟩ = false ∧ w.frozen? ⟨k, 6, none⟩ = false ∧ w.frozen? ⟨k, 7, none⟩ = false ∧ w.frozen? ⟨k, 8, none⟩ = false :=
 ⟨(blk_cell h 0).trans rfl, (blk_cell h 1).trans rfl, (blk_cell h 2).trans rfl, (blk_cell h 3).trans rfl, (blk_cell h 4).trans rfl, (blk_cell h 5).trans rfl, (blk_cell h 6).trans rfl, (blk_cell h 7).trans rfl, (blk_cell h 8).trans rfl, Lib.frozen_of_heap h 0, Lib.frozen_of_heap h 1, Lib.frozen_of_heap h 2, Lib.frozen_of_heap h 3, Lib.frozen_of_heap h 4, Lib.frozen_of_heap h 5, Lib.frozen_of_heap h 6, Lib.frozen_of_heap h 7, Lib.frozen_of_heap h 8⟩
end Go.Proofs.Ytfiamddinkokbaa.F
end

section
set_option linter.unusedVariables false
set_option linter.unusedSimpArgs false
namespace Go.Proofs.Ytfiamddinkokbaa.F
open Go.RowKit Go.Shelf Go.Proofs.YtfiamddinkokbaaW.PrintWords
set_option linter.unusedVariables false
set_option linter.unusedSimpArgs false
abbrev isTextX (x : PP) : Option Bool := doc_Part_isText.f x.f0.f0 x.f0.f1 x.f0.f2 x.f1 x.f2 x.f3 x.f4 x.f5 x.f6
def rightL (n : Int) : List PP → Bool → Int → Option Bool
 | [], _, _ => some true
 | x :: r, tx, i => (isTextX x).bind fun T => (if T = true then some true else doc_Part_isConflict.f x.f0.f0 x.f0.f1 x.f0.f2 x.f1 x.f2 x.f3 x.f4 x.f5 x.f6).bind fun C => if C = true then (doc_Labels_Plain.f x.f0.f0 x.f0.f1 x.f0.f2).bind fun P => if P = true then
   (if T = true then (if tx = true then some false else if x.f2.toList = ([] : List UInt8) then some false else if i < n - 1 then (strings_HasSuffix.f x.f2 (⟨#[10]⟩ : ByteArray)).bind fun S => (if S = true then rightL n r true (i + 1) else some false) else rightL n r true (i + 1)) else rightL n r false (i + 1)) else some false else some false
def rightF (l : List PP) : Option Bool := if l.length ≤ 4000000000000 then rightL l.length l false 0 else none
theorem wrap_one {n : Nat} (h : n ≤ 4000000000000) : wrap64 ((n : Int) - 1) = (n : Int) - 1 := by unfold wrap64; omega
theorem cells9 {w : World} {k : Nat} {v0 v1 v2 v3 v4 v5 v6 v7 v8 : Value} {T : TypeId} (h : w.heap[k]? = some (.cells #[v0, v1, v2, v3, v4, v5, v6, v7, v8] T (0, 0))) : w.cell? ⟨k, 0, none⟩ = some v0 ∧ w.cell? ⟨k, 1, none⟩ = some v1 ∧ w.cell? ⟨k, 2, none⟩ = some v2 ∧ w.cell? ⟨k, 3, none⟩ = some v3 ∧ w.cell? ⟨k, 4, none⟩ = some v4 ∧ w.cell? ⟨k, 5, none⟩ = some v5 ∧ w.cell? ⟨k, 6, none⟩ = some v6 ∧ w.cell? ⟨k, 7, none⟩ = some v7 ∧ w.cell? ⟨k, 8, none⟩ = some v8 :=
 ⟨(blk_cell h 0).trans rfl, (blk_cell h 1).trans rfl, (blk_cell h 2).trans rfl, (blk_cell h 3).trans rfl, (blk_cell h 4).trans rfl, (blk_cell h 5).trans rfl, (blk_cell h 6).trans rfl, (blk_cell h 7).trans rfl, (blk_cell h 8).trans rfl⟩
set_option maxHeartbeats 16000000 in
set_option maxRecDepth 100000 in
theorem right_calls (A0 : Option Addr) (c0 : Nat) (l0 : List PP) (r : Bool) (w : World) (hr0 : Kd.C k106 w A0 l0.length l0) (hc0 : l0.length ≤ c0) (h : rightF l0 = some r) :
  Calls Try.prog 72 #[.slice A0 l0.length c0] w fun e w' => e = .returned (.bool r) ∧ Below w.heap.size w w' := by
 unfold rightF at h
 split at h
 case isFalse => cases h
 case isTrue hl4 =>
 have HL := Aside0.mk h
 have HD := Aside0.mk hr0
 clear h hr0
 go_enter Try.func72, Try.ntmps72
 go_wp2
 go_loopg [3, 8] l0.length (fun gg s3_ s8_ wr => ∃ (i : Nat) (tx : Bool), i ≤ l0.length ∧ l0.length - i ≤ gg ∧ s3_ = .bool tx ∧ s8_ = .int .i64 i ∧ Aside0 (rightL l0.length (l0.drop i) tx i = some r) ∧ Aside0 (Below w.heap.size w wr))
 case atStart => exact ⟨0, false, Nat.zero_le _, by omega, rfl, rfl, ⟨by rw [List.drop_zero]; exact HL.out⟩, ⟨Below.refl _ _⟩⟩
 case round =>
  clear HL
  obtain ⟨i, tx, hi, hg, rfl, rfl, HL, HW⟩ := hrel
  by_cases hlt : i < l0.length
  ·have hltz : (i : Int) < (l0.length : Int) := by omega
   have hq := HL.out
   rw [List.drop_eq_getElem_cons hlt, rightL] at hq
   obtain ⟨ad, rfl, hx0, hx1, hx2, hx3, hx4, hx5, hx6, hx7, hx8⟩ := at_T106 (Kd.C_below HD.out HW.out) (i : Int) (by omega) hltz
   have hrd : rd_T106 l0 (i : Int) = l0[i] := by unfold rd_T106; rw [Int.toNat_natCast, List.getD_eq_getElem?_getD, List.getElem?_eq_getElem hlt]; rfl
   rw [Int.toNat_natCast] at hx0 hx1 hx2 hx3 hx4 hx5 hx6 hx7 hx8
   rw [hrd] at hx0 hx1 hx2 hx3 hx4 hx5 hx6 hx7 hx8
   generalize l0[i] = ch at hx0 hx1 hx2 hx3 hx4 hx5 hx6 hx7 hx8 hq
   obtain ⟨⟨s0, s1, s2⟩, b1, s3, s4, s5, s6, b2⟩ := ch
   simp only [isTextX] at hx0 hx1 hx2 hx3 hx4 hx5 hx6 hx7 hx8 hq
   have hw : wrap64 ((l0.length : Int) - 1) = (l0.length : Int) - 1 := wrap_one hl4
   obtain ⟨T, hT, hq⟩ := Option.bind_eq_some_iff.1 hq
   obtain ⟨C, hC, hq⟩ := Option.bind_eq_some_iff.1 hq
   have HT := Aside0.mk (fun W => doc_Part_isText.calls s0 s1 s2 b1 s3 s4 s5 s6 b2 T W hT)
   clear hrd HL hT
   cases T with
   | true =>
    rw [if_pos rfl] at hC
    obtain rfl := Option.some.inj hC
    rw [if_pos rfl] at hq
    clear hC
    obtain ⟨P, hP, hq⟩ := Option.bind_eq_some_iff.1 hq
    have HP := Aside0.mk (fun W => doc_Labels_Plain.calls s0 s1 s2 P W hP)
    clear hP
    cases P with
    | true =>
     rw [if_pos rfl, if_pos rfl] at hq
     cases tx with
     | true =>
      rw [if_pos rfl] at hq
      obtain rfl := Option.some.inj hq
      go_wp2_with (first
       | (go_at_call 75; (with_reducible refine (HT.out _).mono ?_); rintro e w1 ⟨rfl, hb⟩; (first | have hx := after_call hb HX.out | have hx := after_call hb (blk_drewN HX.out _) | have hx := after_alloc hb); (first | have hw := below_step HW.out hb | have hw := below_step (below_alloc HW.out _) hb | have hw := below_step (pw_below_drewN HW.out _) hb); (try clear HX); (try clear c0' c1 c2 c3 c4 c5 c6 c7 c8); have HX := Aside0.mk hx; obtain ⟨c0', c1, c2, c3, c4, c5, c6, c7, c8⟩ := cells9 hx; clear hx; clear HW; have HW := Aside0.mk hw; clear hw hb)
       | (go_at_call 114; (with_reducible refine (HP.out _).mono ?_); rintro e w1 ⟨rfl, hb⟩; (first | have hx := after_call hb HX.out | have hx := after_call hb (blk_drewN HX.out _) | have hx := after_alloc hb); (first | have hw := below_step HW.out hb | have hw := below_step (below_alloc HW.out _) hb | have hw := below_step (pw_below_drewN HW.out _) hb); (try clear HX); (try clear c0' c1 c2 c3 c4 c5 c6 c7 c8); have HX := Aside0.mk hx; obtain ⟨c0', c1, c2, c3, c4, c5, c6, c7, c8⟩ := cells9 hx; clear hx; clear HW; have HW := Aside0.mk hw; clear hw hb))
      go_ret
      first | exact ⟨rfl, HW.out⟩ | exact ⟨rfl, pw_below_drewN HW.out _⟩
     | false =>
      rw [if_neg (by simp)] at hq
      by_cases he : s3.toList = ([] : List UInt8)
      ·rw [if_pos he] at hq
       obtain rfl := Option.some.inj hq
       have q1 : s3.toList.isEmpty = true := by rw [he]; rfl
       go_wp2_with (first
        | (go_at_call 75; (with_reducible refine (HT.out _).mono ?_); rintro e w1 ⟨rfl, hb⟩; (first | have hx := after_call hb HX.out | have hx := after_call hb (blk_drewN HX.out _) | have hx := after_alloc hb); (first | have hw := below_step HW.out hb | have hw := below_step (below_alloc HW.out _) hb | have hw := below_step (pw_below_drewN HW.out _) hb); (try clear HX); (try clear c0' c1 c2 c3 c4 c5 c6 c7 c8); have HX := Aside0.mk hx; obtain ⟨c0', c1, c2, c3, c4, c5, c6, c7, c8⟩ := cells9 hx; clear hx; clear HW; have HW := Aside0.mk hw; clear hw hb)
        | (go_at_call 114; (with_reducible refine (HP.out _).mono ?_); rintro e w1 ⟨rfl, hb⟩; (first | have hx := after_call hb HX.out | have hx := after_call hb (blk_drewN HX.out _) | have hx := after_alloc hb); (first | have hw := below_step HW.out hb | have hw := below_step (below_alloc HW.out _) hb | have hw := below_step (pw_below_drewN HW.out _) hb); (try clear HX); (try clear c0' c1 c2 c3 c4 c5 c6 c7 c8); have HX := Aside0.mk hx; obtain ⟨c0', c1, c2, c3, c4, c5, c6, c7, c8⟩ := cells9 hx; clear hx; clear HW; have HW := Aside0.mk hw; clear hw hb))
       go_ret
       first | exact ⟨rfl, HW.out⟩ | exact ⟨rfl, pw_below_drewN HW.out _⟩
      ·rw [if_neg he] at hq
       have q1 : s3.toList.isEmpty = false := by cases hs : s3.toList with | nil => exact absurd hs he | cons a t => rfl
       by_cases hn : (i : Int) < (l0.length : Int) - 1
       ·rw [if_pos hn] at hq
        have q2 : decide ((i : Int) < (l0.length : Int) - 1) = true := decide_eq_true hn
        obtain ⟨S, hS, hq⟩ := Option.bind_eq_some_iff.1 hq
        have HSf := Aside0.mk (fun W => strings_HasSuffix.calls s3 ⟨#[10]⟩ S W hS)
        clear hS hn
        cases S with
        | true =>
         rw [if_pos rfl] at hq
         have HQ := Aside0.mk (show rightL l0.length (l0.drop (i + 1)) _ ((i + 1 : Nat) : Int) = some r from by rw [show ((i + 1 : Nat) : Int) = (i : Int) + 1 by omega]; exact hq)
         clear hq
         go_wp2_with (first
          | (go_at_call 75; (with_reducible refine (HT.out _).mono ?_); rintro e w1 ⟨rfl, hb⟩; (first | have hx := after_call hb HX.out | have hx := after_call hb (blk_drewN HX.out _) | have hx := after_alloc hb); (first | have hw := below_step HW.out hb | have hw := below_step (below_alloc HW.out _) hb | have hw := below_step (pw_below_drewN HW.out _) hb); (try clear HX); (try clear c0' c1 c2 c3 c4 c5 c6 c7 c8); have HX := Aside0.mk hx; obtain ⟨c0', c1, c2, c3, c4, c5, c6, c7, c8⟩ := cells9 hx; clear hx; clear HW; have HW := Aside0.mk hw; clear hw hb)
          | (go_at_call 114; (with_reducible refine (HP.out _).mono ?_); rintro e w1 ⟨rfl, hb⟩; (first | have hx := after_call hb HX.out | have hx := after_call hb (blk_drewN HX.out _) | have hx := after_alloc hb); (first | have hw := below_step HW.out hb | have hw := below_step (below_alloc HW.out _) hb | have hw := below_step (pw_below_drewN HW.out _) hb); (try clear HX); (try clear c0' c1 c2 c3 c4 c5 c6 c7 c8); have HX := Aside0.mk hx; obtain ⟨c0', c1, c2, c3, c4, c5, c6, c7, c8⟩ := cells9 hx; clear hx; clear HW; have HW := Aside0.mk hw; clear hw hb)
          | (go_at_call 115; (with_reducible refine (HSf.out _).mono ?_); rintro e w1 ⟨rfl, hd⟩; obtain ⟨n1, rfl⟩ := hd.out; clear hd))
         go_roundg (l0.length - (i + 1))
         case measure => omega
         case rel => exact ⟨i + 1, _, by omega, Nat.le_refl _, rfl, by go_num, HQ, HW⟩
        | false =>
         rw [if_neg (by simp)] at hq
         obtain rfl := Option.some.inj hq
         go_wp2_with (first
          | (go_at_call 75; (with_reducible refine (HT.out _).mono ?_); rintro e w1 ⟨rfl, hb⟩; (first | have hx := after_call hb HX.out | have hx := after_call hb (blk_drewN HX.out _) | have hx := after_alloc hb); (first | have hw := below_step HW.out hb | have hw := below_step (below_alloc HW.out _) hb | have hw := below_step (pw_below_drewN HW.out _) hb); (try clear HX); (try clear c0' c1 c2 c3 c4 c5 c6 c7 c8); have HX := Aside0.mk hx; obtain ⟨c0', c1, c2, c3, c4, c5, c6, c7, c8⟩ := cells9 hx; clear hx; clear HW; have HW := Aside0.mk hw; clear hw hb)
          | (go_at_call 114; (with_reducible refine (HP.out _).mono ?_); rintro e w1 ⟨rfl, hb⟩; (first | have hx := after_call hb HX.out | have hx := after_call hb (blk_drewN HX.out _) | have hx := after_alloc hb); (first | have hw := below_step HW.out hb | have hw := below_step (below_alloc HW.out _) hb | have hw := below_step (pw_below_drewN HW.out _) hb); (try clear HX); (try clear c0' c1 c2 c3 c4 c5 c6 c7 c8); have HX := Aside0.mk hx; obtain ⟨c0', c1, c2, c3, c4, c5, c6, c7, c8⟩ := cells9 hx; clear hx; clear HW; have HW := Aside0.mk hw; clear hw hb)
          | (go_at_call 115; (with_reducible refine (HSf.out _).mono ?_); rintro e w1 ⟨rfl, hd⟩; obtain ⟨n1, rfl⟩ := hd.out; clear hd))
         go_ret
         first | exact ⟨rfl, HW.out⟩ | exact ⟨rfl, pw_below_drewN HW.out _⟩
       ·rw [if_neg hn] at hq
        have q2 : decide ((i : Int) < (l0.length : Int) - 1) = false := decide_eq_false hn
        clear hn
        have HQ := Aside0.mk (show rightL l0.length (l0.drop (i + 1)) _ ((i + 1 : Nat) : Int) = some r from by rw [show ((i + 1 : Nat) : Int) = (i : Int) + 1 by omega]; exact hq)
        clear hq
        go_wp2_with (first
         | (go_at_call 75; (with_reducible refine (HT.out _).mono ?_); rintro e w1 ⟨rfl, hb⟩; (first | have hx := after_call hb HX.out | have hx := after_call hb (blk_drewN HX.out _) | have hx := after_alloc hb); (first | have hw := below_step HW.out hb | have hw := below_step (below_alloc HW.out _) hb | have hw := below_step (pw_below_drewN HW.out _) hb); (try clear HX); (try clear c0' c1 c2 c3 c4 c5 c6 c7 c8); have HX := Aside0.mk hx; obtain ⟨c0', c1, c2, c3, c4, c5, c6, c7, c8⟩ := cells9 hx; clear hx; clear HW; have HW := Aside0.mk hw; clear hw hb)
         | (go_at_call 114; (with_reducible refine (HP.out _).mono ?_); rintro e w1 ⟨rfl, hb⟩; (first | have hx := after_call hb HX.out | have hx := after_call hb (blk_drewN HX.out _) | have hx := after_alloc hb); (first | have hw := below_step HW.out hb | have hw := below_step (below_alloc HW.out _) hb | have hw := below_step (pw_below_drewN HW.out _) hb); (try clear HX); (try clear c0' c1 c2 c3 c4 c5 c6 c7 c8); have HX := Aside0.mk hx; obtain ⟨c0', c1, c2, c3, c4, c5, c6, c7, c8⟩ := cells9 hx; clear hx; clear HW; have HW := Aside0.mk hw; clear hw hb))
        go_roundg (l0.length - (i + 1))
        case measure => omega
        case rel => exact ⟨i + 1, _, by omega, Nat.le_refl _, rfl, by go_num, HQ, HW⟩
    | false =>
     rw [if_neg (by simp)] at hq
     obtain rfl := Option.some.inj hq
     go_wp2_with (first
      | (go_at_call 75; (with_reducible refine (HT.out _).mono ?_); rintro e w1 ⟨rfl, hb⟩; (first | have hx := after_call hb HX.out | have hx := after_call hb (blk_drewN HX.out _) | have hx := after_alloc hb); (first | have hw := below_step HW.out hb | have hw := below_step (below_alloc HW.out _) hb | have hw := below_step (pw_below_drewN HW.out _) hb); (try clear HX); (try clear c0' c1 c2 c3 c4 c5 c6 c7 c8); have HX := Aside0.mk hx; obtain ⟨c0', c1, c2, c3, c4, c5, c6, c7, c8⟩ := cells9 hx; clear hx; clear HW; have HW := Aside0.mk hw; clear hw hb)
      | (go_at_call 114; (with_reducible refine (HP.out _).mono ?_); rintro e w1 ⟨rfl, hb⟩; (first | have hx := after_call hb HX.out | have hx := after_call hb (blk_drewN HX.out _) | have hx := after_alloc hb); (first | have hw := below_step HW.out hb | have hw := below_step (below_alloc HW.out _) hb | have hw := below_step (pw_below_drewN HW.out _) hb); (try clear HX); (try clear c0' c1 c2 c3 c4 c5 c6 c7 c8); have HX := Aside0.mk hx; obtain ⟨c0', c1, c2, c3, c4, c5, c6, c7, c8⟩ := cells9 hx; clear hx; clear HW; have HW := Aside0.mk hw; clear hw hb))
     go_ret
     first | exact ⟨rfl, HW.out⟩ | exact ⟨rfl, pw_below_drewN HW.out _⟩
   | false =>
    rw [if_neg (by simp)] at hC
    have HCf := Aside0.mk (fun W => doc_Part_isConflict.calls s0 s1 s2 b1 s3 s4 s5 s6 b2 C W hC)
    clear hC
    cases C with
    | false =>
     rw [if_neg (by simp)] at hq
     obtain rfl := Option.some.inj hq
     go_wp2_with (first
      | (go_at_call 75; (with_reducible refine (HT.out _).mono ?_); rintro e w1 ⟨rfl, hb⟩; (first | have hx := after_call hb HX.out | have hx := after_call hb (blk_drewN HX.out _) | have hx := after_alloc hb); (first | have hw := below_step HW.out hb | have hw := below_step (below_alloc HW.out _) hb | have hw := below_step (pw_below_drewN HW.out _) hb); (try clear HX); (try clear c0' c1 c2 c3 c4 c5 c6 c7 c8); have HX := Aside0.mk hx; obtain ⟨c0', c1, c2, c3, c4, c5, c6, c7, c8⟩ := cells9 hx; clear hx; clear HW; have HW := Aside0.mk hw; clear hw hb)
      | (go_at_call 113; (with_reducible refine (HCf.out _).mono ?_); rintro e w1 ⟨rfl, hb⟩; (first | have hx := after_call hb HX.out | have hx := after_call hb (blk_drewN HX.out _) | have hx := after_alloc hb); (first | have hw := below_step HW.out hb | have hw := below_step (below_alloc HW.out _) hb | have hw := below_step (pw_below_drewN HW.out _) hb); (try clear HX); (try clear c0' c1 c2 c3 c4 c5 c6 c7 c8); have HX := Aside0.mk hx; obtain ⟨c0', c1, c2, c3, c4, c5, c6, c7, c8⟩ := cells9 hx; clear hx; clear HW; have HW := Aside0.mk hw; clear hw hb))
     go_ret
     first | exact ⟨rfl, HW.out⟩ | exact ⟨rfl, pw_below_drewN HW.out _⟩
    | true =>
     rw [if_pos rfl] at hq
     obtain ⟨P, hP, hq⟩ := Option.bind_eq_some_iff.1 hq
     have HP := Aside0.mk (fun W => doc_Labels_Plain.calls s0 s1 s2 P W hP)
     clear hP
     cases P with
     | true =>
      rw [if_pos rfl, if_neg (by simp)] at hq
      have HQ := Aside0.mk (show rightL l0.length (l0.drop (i + 1)) _ ((i + 1 : Nat) : Int) = some r from by rw [show ((i + 1 : Nat) : Int) = (i : Int) + 1 by omega]; exact hq)
      clear hq
      go_wp2_with (first
       | (go_at_call 75; (with_reducible refine (HT.out _).mono ?_); rintro e w1 ⟨rfl, hb⟩; (first | have hx := after_call hb HX.out | have hx := after_call hb (blk_drewN HX.out _) | have hx := after_alloc hb); (first | have hw := below_step HW.out hb | have hw := below_step (below_alloc HW.out _) hb | have hw := below_step (pw_below_drewN HW.out _) hb); (try clear HX); (try clear c0' c1 c2 c3 c4 c5 c6 c7 c8); have HX := Aside0.mk hx; obtain ⟨c0', c1, c2, c3, c4, c5, c6, c7, c8⟩ := cells9 hx; clear hx; clear HW; have HW := Aside0.mk hw; clear hw hb)
       | (go_at_call 113; (with_reducible refine (HCf.out _).mono ?_); rintro e w1 ⟨rfl, hb⟩; (first | have hx := after_call hb HX.out | have hx := after_call hb (blk_drewN HX.out _) | have hx := after_alloc hb); (first | have hw := below_step HW.out hb | have hw := below_step (below_alloc HW.out _) hb | have hw := below_step (pw_below_drewN HW.out _) hb); (try clear HX); (try clear c0' c1 c2 c3 c4 c5 c6 c7 c8); have HX := Aside0.mk hx; obtain ⟨c0', c1, c2, c3, c4, c5, c6, c7, c8⟩ := cells9 hx; clear hx; clear HW; have HW := Aside0.mk hw; clear hw hb)
       | (go_at_call 114; (with_reducible refine (HP.out _).mono ?_); rintro e w1 ⟨rfl, hb⟩; (first | have hx := after_call hb HX.out | have hx := after_call hb (blk_drewN HX.out _) | have hx := after_alloc hb); (first | have hw := below_step HW.out hb | have hw := below_step (below_alloc HW.out _) hb | have hw := below_step (pw_below_drewN HW.out _) hb); (try clear HX); (try clear c0' c1 c2 c3 c4 c5 c6 c7 c8); have HX := Aside0.mk hx; obtain ⟨c0', c1, c2, c3, c4, c5, c6, c7, c8⟩ := cells9 hx; clear hx; clear HW; have HW := Aside0.mk hw; clear hw hb))
      go_roundg (l0.length - (i + 1))
      case measure => omega
      case rel => exact ⟨i + 1, _, by omega, Nat.le_refl _, rfl, by go_num, HQ, HW⟩
     | false =>
      rw [if_neg (by simp)] at hq
      obtain rfl := Option.some.inj hq
      go_wp2_with (first
       | (go_at_call 75; (with_reducible refine (HT.out _).mono ?_); rintro e w1 ⟨rfl, hb⟩; (first | have hx := after_call hb HX.out | have hx := after_call hb (blk_drewN HX.out _) | have hx := after_alloc hb); (first | have hw := below_step HW.out hb | have hw := below_step (below_alloc HW.out _) hb | have hw := below_step (pw_below_drewN HW.out _) hb); (try clear HX); (try clear c0' c1 c2 c3 c4 c5 c6 c7 c8); have HX := Aside0.mk hx; obtain ⟨c0', c1, c2, c3, c4, c5, c6, c7, c8⟩ := cells9 hx; clear hx; clear HW; have HW := Aside0.mk hw; clear hw hb)
       | (go_at_call 113; (with_reducible refine (HCf.out _).mono ?_); rintro e w1 ⟨rfl, hb⟩; (first | have hx := after_call hb HX.out | have hx := after_call hb (blk_drewN HX.out _) | have hx := after_alloc hb); (first | have hw := below_step HW.out hb | have hw := below_step (below_alloc HW.out _) hb | have hw := below_step (pw_below_drewN HW.out _) hb); (try clear HX); (try clear c0' c1 c2 c3 c4 c5 c6 c7 c8); have HX := Aside0.mk hx; obtain ⟨c0', c1, c2, c3, c4, c5, c6, c7, c8⟩ := cells9 hx; clear hx; clear HW; have HW := Aside0.mk hw; clear hw hb)
       | (go_at_call 114; (with_reducible refine (HP.out _).mono ?_); rintro e w1 ⟨rfl, hb⟩; (first | have hx := after_call hb HX.out | have hx := after_call hb (blk_drewN HX.out _) | have hx := after_alloc hb); (first | have hw := below_step HW.out hb | have hw := below_step (below_alloc HW.out _) hb | have hw := below_step (pw_below_drewN HW.out _) hb); (try clear HX); (try clear c0' c1 c2 c3 c4 c5 c6 c7 c8); have HX := Aside0.mk hx; obtain ⟨c0', c1, c2, c3, c4, c5, c6, c7, c8⟩ := cells9 hx; clear hx; clear HW; have HW := Aside0.mk hw; clear hw hb))
      go_ret
      first | exact ⟨rfl, HW.out⟩ | exact ⟨rfl, pw_below_drewN HW.out _⟩
  ·have hq := HL.out
   rw [List.drop_of_length_le (by omega), rightL] at hq
   obtain rfl := Option.some.inj hq
   clear hq
   go_wp2
   go_ret
   exact ⟨rfl, HW.out⟩
end Go.Proofs.Ytfiamddinkokbaa.F
end

section
set_option linter.unusedVariables false
set_option linter.unusedSimpArgs false
namespace Go.Proofs.Ytfiamddinkokbaa.F
open Go.RowKit Go.Proofs.YtfiamddinkokbaaW.PrintWords Go.Proofs.YtfiamddinkokbaaW.PrintLast Go.Proofs.YtfiamddinkokbaaW.PrintMore
attribute [local go_sem] max2_int min2_int max_two min_two max_three min_three max_four min_four
set_option linter.unusedVariables false
set_option linter.unusedSimpArgs false
def doc_Doc_Right.f (k : Nat) (l0 : List S106) : Option Bool := rightF l0
theorem doc_Doc_Right.mono : ∀ l0 k, LeO (doc_Doc_Right.f k l0) (doc_Doc_Right.f (k + 1) l0) := fun _ _ => LeO.refl _
theorem doc_Doc_Right.calls (k : Nat) (A0 : Option Addr) (c0 : Nat) (l0 : List (S106)) (r : Bool) (w : World) (hr0 : Kd.C k106 w A0 l0.length l0) (hc0 : l0.length ≤ c0) (h : doc_Doc_Right.f k l0 = some r) :
  Calls Try.prog 72 #[.slice A0 l0.length c0] w fun e w' => e = .returned (.bool r) ∧ Below w.heap.size w w' := by
 exact right_calls A0 c0 l0 r w hr0 hc0 h
end Go.Proofs.Ytfiamddinkokbaa.F
end

section
set_option linter.unusedVariables false
set_option linter.unusedSimpArgs false
namespace Go.Proofs.Ytfiamddinkokbaa.F
open Go.RowKit Go.Shelf Go.Proofs.YtfiamddinkokbaaW.PrintWords
set_option linter.unusedVariables false
set_option linter.unusedSimpArgs false
def texts106 (x : S106) : List ByteArray := [x.f2, x.f3, x.f4, x.f5]
def agg106 (x : S106) : Value := .agg #[.string x.f0.f0, .string x.f0.f1, .string x.f0.f2, .bool x.f1, .string x.f2, .string x.f3, .string x.f4, .string x.f5, .bool x.f6]
def widest (k : Nat) (x : S106) : Int := (doc_run.f k (texts106 x)).getD 0
theorem fits_lit (W : World) (n : Nat) (t : TypeId) (a b c d : ByteArray) (h : W.heap[n]? = some (.cells #[.string a, .string b, .string c, .string d] t (0, 0))) : Kd.C Kd.string W (some ⟨n, 0, none⟩) 4 [a, b, c, d] := by
 refine ⟨rfl, by omega, fun _ => ⟨_, rfl, ?_⟩⟩
 intro j p hj
 refine ⟨[.string p], rfl, rfl, ?_⟩
 intro i u hi
 have hi0 : i = 0 := by
  match i, hi with
  | 0, _ => rfl
 subst hi0
 obtain rfl : Value.string p = u := by simpa using hi
 rw [add_plain]
 have hz : (Kd.string).sz = 1 := rfl
 rw [hz, Nat.mul_one, Nat.add_zero]
 have : ∀ i v, (#[Value.string a, .string b, .string c, .string d] : Array Value)[i]? = some v → W.cell? ⟨n, i, none⟩ = some v := by
  intro i v hv
  exact (blk_cell h i).trans hv
 apply this
 match j, hj with
 | 0, hj => simpa using hj
 | 1, hj => simpa using hj
 | 2, hj => simpa using hj
 | 3, hj => simpa using hj
theorem fits_new (W : World) (o : Obj) : (W.alloc o).drew.heap[W.heap.size]? = some o := World.alloc_heap_new W o
theorem fits_run (k n : Nat) (t : TypeId) (a b c d : ByteArray) (r : Int) (W : World) (h : W.heap[n]? = some (.cells #[.string a, .string b, .string c, .string d] t (0, 0))) (hr : doc_run.f k [a, b, c, d] = some r) :
  Calls Try.prog 71 #[.slice (some ⟨n, 0, none⟩) 4 4] W fun e w' => e = .returned (.int .i64 r) ∧ Below W.heap.size W w' :=
 doc_run.calls k (some ⟨n, 0, none⟩) 4 [a, b, c, d] r W (fits_lit W n t a b c d h) (Nat.le_refl 4) hr
theorem fits_keep {w0 W w' : World} {a0 a1 a2 a3 a4 : Addr} {v0 v1 v2 v3 v4 : Value} (hb : Below W.heap.size W w')
  (h : W.cell? a0 = some v0 ∧ W.cell? a1 = some v1 ∧ W.cell? a2 = some v2 ∧ W.cell? a3 = some v3 ∧ W.cell? a4 = some v4 ∧ Below w0.heap.size w0 W) :
  w'.cell? a0 = some v0 ∧ w'.cell? a1 = some v1 ∧ w'.cell? a2 = some v2 ∧ w'.cell? a3 = some v3 ∧ w'.cell? a4 = some v4 ∧ Below w0.heap.size w0 w' := by
 obtain ⟨h0, h1, h2, h3, h4, h5⟩ := h
 exact ⟨(hb.cell (World.block_lt_of_cell? W _ h0)).trans h0, (hb.cell (World.block_lt_of_cell? W _ h1)).trans h1, (hb.cell (World.block_lt_of_cell? W _ h2)).trans h2, (hb.cell (World.block_lt_of_cell? W _ h3)).trans h3,
  (hb.cell (World.block_lt_of_cell? W _ h4)).trans h4, below_step h5 hb⟩
set_option maxHeartbeats 4000000 in
set_option maxRecDepth 100000 in
theorem fits_pred (k B : Nat) (lim : Int) (w W : World) (x : S106) (r : Int) (hB : B < w.heap.size) (hc : w.cell? ⟨B, 0, none⟩ = some (.int .i64 lim)) (hb : Below w.heap.size w W)
  (hr : doc_run.f k (texts106 x) = some r) :
  Calls Try.prog 117 (#[agg106 x] ++ #[.pointer (some ⟨B, 0, none⟩)]) W fun e w' => e = .returned (.bool (decide (lim ≤ r))) ∧ Below w.heap.size w w' := by
 have hW : W.cell? ⟨B, 0, none⟩ = some (.int .i64 lim) := (hb.cell (p := ⟨B, 0, none⟩) hB).trans hc
 have hBW : B < W.heap.size := World.block_lt_of_cell? W _ hW
 show Calls Try.prog 117 #[agg106 x, .pointer (some ⟨B, 0, none⟩)] W _
 unfold agg106
 obtain ⟨H0, hH⟩ : ∃ H0, W.heap.size = H0 := ⟨_, rfl⟩
 clear hc hB
 obtain ⟨⟨l1, l2, l3⟩, b1, s2, s3, s4, s5, b6⟩ := x
 have HX : Aside0 (doc_run.f k [s2, s3, s4, s5] = some r) := ⟨hr⟩
 clear hr
 dsimp only
 go_enter Try.func117, Try.ntmps117
 go_wp2_with fail
 try rw [hH]
 have hbox : (W.alloc (Obj.cells #[Value.string l1, Value.string l2, Value.string l3, Value.bool b1, Value.string s2, Value.string s3, Value.string s4, Value.string s5, Value.bool b6] 106)).heap[H0]? = some (Obj.cells #[Value.string l1, Value.string l2, Value.string l3, Value.bool b1, Value.string s2, Value.string s3, Value.string s4, Value.string s5, Value.bool b6] 106) := by
  rw [← hH]; exact World.alloc_heap_new _ _
 have hbel : Below w.heap.size w (W.alloc (Obj.cells #[Value.string l1, Value.string l2, Value.string l3, Value.bool b1, Value.string s2, Value.string s3, Value.string s4, Value.string s5, Value.bool b6] 106)) := below_alloc hb _
 have hlim : (W.alloc (Obj.cells #[Value.string l1, Value.string l2, Value.string l3, Value.bool b1, Value.string s2, Value.string s3, Value.string s4, Value.string s5, Value.bool b6] 106)).cell? ⟨B, 0, none⟩ = some (.int .i64 lim) :=
  ((below_alloc (Below.refl _ _) _).cell hBW).trans hW
 clear hb hW hBW hH
 generalize W.alloc (Obj.cells #[Value.string l1, Value.string l2, Value.string l3, Value.bool b1, Value.string s2, Value.string s3, Value.string s4, Value.string s5, Value.bool b6] 106) = W1 at hbox hbel hlim ⊢
 have e4 : W1.cell? ⟨H0, 4, none⟩ = some (.string s2) := (blk_cell hbox 4).trans rfl
 have e5 : W1.cell? ⟨H0, 5, none⟩ = some (.string s3) := (blk_cell hbox 5).trans rfl
 have e6 : W1.cell? ⟨H0, 6, none⟩ = some (.string s4) := (blk_cell hbox 6).trans rfl
 have e7 : W1.cell? ⟨H0, 7, none⟩ = some (.string s5) := (blk_cell hbox 7).trans rfl
 go_region_held3 (fun w' => w'.cell? ⟨B, 0, none⟩ = some (.int .i64 lim) ∧ w'.cell? ⟨H0, 4, none⟩ = some (.string s2) ∧ w'.cell? ⟨H0, 5, none⟩ = some (.string s3) ∧ w'.cell? ⟨H0, 6, none⟩ = some (.string s4) ∧ w'.cell? ⟨H0, 7, none⟩ = some (.string s5) ∧ Below w.heap.size w w')
  ((first | exact fits_keep (by first | assumption | exact below_drew (below_alloc (Below.refl _ _) _) | exact below_alloc (Below.refl _ _) _ | exact below_drew (Below.refl _ _)) (by first | assumption | (refine ⟨?_, ?_, ?_, ?_, ?_, ?_⟩ <;> assumption))))
  (first | (go_at_call 71; refine (fits_run k _ 9 s2 s3 s4 s5 r _ (fits_new _ _) HX.out).mono ?_; rintro e w' ⟨rfl, hb'⟩))
 all_goals go_wp2
 all_goals go_ret
 all_goals (refine ⟨rfl, ?_⟩; first | assumption | (go_split_ands; assumption))
instance inhab106 : Inhabited S106 := ⟨z106⟩
theorem getD106 (l : List S106) (j : Nat) : l[j]! = l.getD j z106 := by rw [List.getElem!_eq_getElem?_getD, List.getD_eq_getElem?_getD]; rfl
def wide (k : Nat) (lim : Int) (x : S106) : Bool := decide (lim ≤ widest k x)
def fitsOk (k : Nat) (l : List S106) : Bool := l.all fun x => (doc_run.f k (texts106 x)).isSome
set_option maxHeartbeats 4000000 in
set_option maxRecDepth 100000 in
theorem fits_index (k B : Nat) (lim : Int) (A : Option Addr) (c : Nat) (l : List S106) (w : World) (hB : B < w.heap.size) (hc : w.cell? ⟨B, 0, none⟩ = some (.int .i64 lim))
  (hr : Kd.C k106 w A l.length l) (hok : fitsOk k l = true) :
  Calls Try.prog 143 #[.slice A l.length c, .func (.func 117) #[] #[.pointer (some ⟨B, 0, none⟩)]] w fun e w' =>
   e = .returned (.int .i64 (Lib.idxBy (fun _ y => wide k lim y) l z106)) ∧ Below w.heap.size w w' := by
 have eg : ∀ args w, (callFunc 117 args).run Try.prog w = .ok (.enter 117 args) w := enters_of Try.func117 (by kernel_rfl) rfl
 have hrun : ∀ x ∈ l, doc_run.f k (texts106 x) = some (widest k x) := by
  intro x hx
  have h1 := List.all_eq_true.1 hok x hx
  obtain ⟨r, hr⟩ := Option.isSome_iff_exists.1 h1
  unfold widest
  rw [hr]; rfl
 have hlen : l.length ≤ 9223372036854775807 := hr.2.1
 have hpred : ∀ (W : World) (x : S106), x ∈ l → Below w.heap.size w W → Calls Try.prog 117 (#[agg106 x] ++ #[.pointer (some ⟨B, 0, none⟩)]) W fun e w' => e = .returned (.bool (wide k lim x)) ∧ Below w.heap.size w w' :=
  fun W x hx hb => fits_pred k B lim w W x (widest k x) hB hc hb (hrun x hx)
 have HR0 := Aside0.mk hr
 clear hr hc hB hok hrun
 go_enter Try.func143, Try.ntmps143
 go_wp2
 go_loopg [5, 8] l.length (fun gg _ s8 wr => ∃ kk : Nat, kk ≤ l.length ∧ l.length - kk ≤ gg ∧ s8 = .int .i64 kk ∧ Aside (Below w.heap.size w wr) ∧ Aside (∀ j, j < kk → wide k lim (l.getD j z106) = false))
 case atStart => exact ⟨0, Nat.zero_le _, by omega, rfl, Below.refl _ w, fun j hj => absurd hj (Nat.not_lt_zero _)⟩
 case round =>
  obtain ⟨kk, hkk, hg, rfl, BW, AA⟩ := hrel
  by_cases hlt : kk < l.length
  ·have hltz : (kk : Int) < (l.length : Int) := by omega
   obtain ⟨ad, rfl, hx0, hx1, hx2, hx3, hx4, hx5, hx6, hx7, hx8⟩ := at_T106 (Kd.C_below HR0.out BW.out) (kk : Int) (by omega) hltz
   have hcall := hpred wr (l.getD kk z106) (by rw [List.getD_eq_getElem?_getD, List.getElem?_eq_getElem hlt]; exact List.getElem_mem hlt) BW.out
   have hrd : rd_T106 l (kk : Int) = l.getD kk z106 := rfl
   rw [Int.toNat_natCast] at hx0 hx1 hx2 hx3 hx4 hx5 hx6 hx7 hx8
   rw [hrd] at hx0 hx1 hx2 hx3 hx4 hx5 hx6 hx7 hx8
   clear hpred hrd
   generalize hy : l.getD kk z106 = y at hx0 hx1 hx2 hx3 hx4 hx5 hx6 hx7 hx8 hcall
   have BB : Aside (l.getD kk z106 = y) := hy
   clear hy
   unfold agg106 at hcall
   obtain ⟨⟨l1, l2, l3⟩, b1, s2, s3, s4, s5, b6⟩ := y
   have p0 : (0 : Int) ≤ (kk : Int) := by omega
   cases hq : wide k lim ⟨⟨l1, l2, l3⟩, b1, s2, s3, s4, s5, b6⟩ with
   | true =>
    rw [hq] at hcall
    go_wp2_with (go_at_fn 117; refine hcall.mono ?_; rintro e w' ⟨rfl, hb'⟩)
    go_ret
    refine ⟨?_, hb'⟩
    have hit := Lib.idxBy_hit (fun _ y => wide k lim y) l l.length kk z106 hlt (Nat.le_refl _) (by show wide k lim l[kk]! = true; rw [getD106, BB.out]; exact hq) (fun j hj => by show wide k lim l[j]! = false; rw [getD106]; exact AA.out j hj)
    rw [List.take_length] at hit
    rw [hit]; rfl
   | false =>
    rw [hq] at hcall
    go_wp2_with (go_at_fn 117; refine hcall.mono ?_; rintro e w' ⟨rfl, hb'⟩)
    go_roundg (l.length - (kk + 1))
    case measure => omega
    case rel =>
     refine ⟨kk + 1, by omega, by omega, by go_num, hb', (show Aside _ from fun j hj => ?_)⟩
     by_cases e : j = kk
     ·subst e
      rw [BB.out]; exact hq
     ·exact AA.out j (by omega)
  ·have hltz : ¬ (kk : Int) < (l.length : Int) := by omega
   have : kk = l.length := by omega
   subst this
   go_wp2
   go_ret
   refine ⟨?_, BW.out⟩
   have miss := Lib.idxBy_miss (fun _ y => wide k lim y) l l.length z106 (fun j hj => by show wide k lim l[j]! = false; rw [getD106]; exact AA.out j hj)
   rw [List.take_length] at miss
   rw [miss]; rfl
theorem fits_contains (k B : Nat) (lim : Int) (A : Option Addr) (c : Nat) (l : List S106) (w : World) (hB : B < w.heap.size) (hc : w.cell? ⟨B, 0, none⟩ = some (.int .i64 lim))
  (hr : Kd.C k106 w A l.length l) (hok : fitsOk k l = true) :
  Calls Try.prog 116 #[.slice A l.length c, .func (.func 117) #[] #[.pointer (some ⟨B, 0, none⟩)]] w fun e w' =>
   e = .returned (.bool (l.any (wide k lim))) ∧ Below w.heap.size w w' := by
 have hcon := fits_index k B lim A c l w hB hc hr hok
 rw [show l.any (wide k lim) = decide (0 ≤ Lib.idxBy (fun _ y => wide k lim y) l z106) from (Lib.idxBy_nonneg_iff (fun _ y => wide k lim y) l z106).symm]
 clear hr hc hok
 generalize Lib.idxBy (fun _ y => wide k lim y) l z106 = r at hcon ⊢
 go_enter Try.func116, Try.ntmps116
 go_wp2_with (go_at_call 143; refine hcon.mono ?_; rintro e w' ⟨rfl, hb'⟩)
 go_ret
 exact ⟨rfl, hb'⟩
def fitsF (k : Nat) (l : List S106) (a1 : Int) : Option Bool := if 1 ≤ a1 then (if fitsOk k l = true then some (!l.any (wide k a1)) else none) else some false
theorem fits_calls (k : Nat) (A : Option Addr) (c : Nat) (l : List S106) (a1 : Int) (r : Bool) (w : World) (hr : Kd.C k106 w A l.length l) (hc : l.length ≤ c) (h : fitsF k l a1 = some r) :
  Calls Try.prog 73 #[.slice A l.length c, .int .i64 a1] w fun e w' => e = .returned (.bool r) ∧ Below w.heap.size w w' := by
 unfold fitsF at h
 by_cases h1 : 1 ≤ a1
 ·rw [if_pos h1] at h
  by_cases h2 : fitsOk k l = true
  ·rw [if_pos h2] at h
   obtain rfl := Option.some.inj h
   have hcon := fits_contains k w.heap.size a1 A c l (w.alloc (.cells #[.int .i64 a1] 3)) (by simp) (by simp) (Kd.C_alloc hr _) h2
   clear hr h2
   generalize l.any (wide k a1) = q at hcon ⊢
   have h1b : decide (1 ≤ a1) = true := decide_eq_true h1
   have h1e := eq_true h1
   go_enter Try.func73, Try.ntmps73
   go_wp2_with (go_at_call 116; refine hcon.mono ?_; rintro e w' ⟨rfl, hb'⟩)
   go_ret
   exact ⟨rfl, below_step (below_alloc (Below.refl _ _) _) hb'⟩
  ·rw [if_neg h2] at h; cases h
 ·rw [if_neg h1] at h
  obtain rfl := Option.some.inj h
  have h1b : decide (1 ≤ a1) = false := decide_eq_false h1
  have h1e := eq_false h1
  go_enter Try.func73, Try.ntmps73
  go_wp2
  go_ret
  exact ⟨rfl, below_alloc (Below.refl _ _) _⟩
theorem fits_mono : ∀ l a1 k, LeO (fitsF k l a1) (fitsF (k + 1) l a1) := by
 intro l a1 k r h
 unfold fitsF at h ⊢
 by_cases h1 : 1 ≤ a1
 ·rw [if_pos h1] at h ⊢
  by_cases h2 : fitsOk k l = true
  ·rw [if_pos h2] at h
   have hx : ∀ x ∈ l, doc_run.f (k + 1) (texts106 x) = doc_run.f k (texts106 x) := by
    intro x hx
    obtain ⟨v, hv⟩ := Option.isSome_iff_exists.1 (List.all_eq_true.1 h2 x hx)
    rw [hv, doc_run.mono _ _ _ hv]
   have h3 : fitsOk (k + 1) l = true := by
    refine List.all_eq_true.2 fun x hm => ?_
    rw [hx x hm]; exact List.all_eq_true.1 h2 x hm
   have h4 : l.any (wide (k + 1) a1) = l.any (wide k a1) := by
    rw [Bool.eq_iff_iff, List.any_eq_true, List.any_eq_true]
    constructor <;> (rintro ⟨x, hm, hw⟩; refine ⟨x, hm, ?_⟩; unfold wide widest at hw ⊢; rw [hx x hm] at *; exact hw)
   rw [if_pos h3, h4]; exact h
  ·rw [if_neg h2] at h; cases h
 ·rw [if_neg h1] at h ⊢; exact h
end Go.Proofs.Ytfiamddinkokbaa.F
end

section
set_option linter.unusedVariables false
set_option linter.unusedSimpArgs false
namespace Go.Proofs.Ytfiamddinkokbaa.F
open Go.RowKit Go.Proofs.YtfiamddinkokbaaW.PrintWords Go.Proofs.YtfiamddinkokbaaW.PrintLast Go.Proofs.YtfiamddinkokbaaW.PrintMore
attribute [local go_sem] max2_int min2_int max_two min_two max_three min_three max_four min_four
set_option linter.unusedVariables false
set_option linter.unusedSimpArgs false
def doc_Doc_Fits.f (k : Nat) (l0 : List S106) (a1 : Int) : Option Bool := fitsF k l0 a1
theorem doc_Doc_Fits.mono : ∀ l0 a1 k, LeO (doc_Doc_Fits.f k l0 a1) (doc_Doc_Fits.f (k + 1) l0 a1) := fits_mono
theorem doc_Doc_Fits.calls (k : Nat) (A0 : Option Addr) (c0 : Nat) (l0 : List (S106)) (a1 : Int) (r : Bool) (w : World) (hr0 : Kd.C k106 w A0 l0.length l0) (hc0 : l0.length ≤ c0) (h : doc_Doc_Fits.f k l0 a1 = some r) :
  Calls Try.prog 73 #[.slice A0 l0.length c0, .int .i64 a1] w fun e w' => e = .returned (.bool r) ∧ Below w.heap.size w w' := by
 exact fits_calls k A0 c0 l0 a1 r w hr0 hc0 h
end Go.Proofs.Ytfiamddinkokbaa.F
end

section
set_option linter.unusedVariables false
set_option linter.unusedSimpArgs false
namespace Go.Proofs.Ytfiamddinkokbaa.F
open Go.RowKit Go.Proofs.YtfiamddinkokbaaW.PrintWords Go.Proofs.YtfiamddinkokbaaW.PrintLast Go.Proofs.YtfiamddinkokbaaW.PrintMore
attribute [local go_sem] max2_int min2_int max_two min_two max_three min_three max_four min_four
set_option linter.unusedVariables false
set_option linter.unusedSimpArgs false
end Go.Proofs.Ytfiamddinkokbaa.F
end

section
set_option linter.unusedVariables false
set_option linter.unusedSimpArgs false
namespace Go.Proofs.Ytfiamddinkokbaa.F
open Go.RowKit Go.Proofs.YtfiamddinkokbaaW.PrintWords Go.Proofs.YtfiamddinkokbaaW.PrintLast Go.Proofs.YtfiamddinkokbaaW.PrintMore
attribute [local go_sem] max2_int min2_int max_two min_two max_three min_three max_four min_four
set_option linter.unusedVariables false
set_option linter.unusedSimpArgs false
end Go.Proofs.Ytfiamddinkokbaa.F
end

section
set_option linter.unusedVariables false
set_option linter.unusedSimpArgs false
namespace Go.Proofs.Ytfiamddinkokbaa.F
open Go.RowKit Go.Proofs.YtfiamddinkokbaaW.PrintWords Go.Proofs.YtfiamddinkokbaaW.PrintLast Go.Proofs.YtfiamddinkokbaaW.PrintMore
attribute [local go_sem] max2_int min2_int max_two min_two max_three min_three max_four min_four
set_option linter.unusedVariables false
set_option linter.unusedSimpArgs false
attribute [local go_sem high] eqA106
end Go.Proofs.Ytfiamddinkokbaa.F
end

section
set_option linter.unusedVariables false
set_option linter.unusedSimpArgs false
namespace Go.Proofs.Ytfiamddinkokbaa.F
open Go.RowKit Go.Proofs.YtfiamddinkokbaaW.PrintWords Go.Proofs.YtfiamddinkokbaaW.PrintLast Go.Proofs.YtfiamddinkokbaaW.PrintMore
attribute [local go_sem] max2_int min2_int max_two min_two max_three min_three max_four min_four
set_option linter.unusedVariables false
set_option linter.unusedSimpArgs false
end Go.Proofs.Ytfiamddinkokbaa.F
end

section
set_option linter.unusedVariables false
set_option linter.unusedSimpArgs false
namespace Go.Proofs.Ytfiamddinkokbaa.F
open Go.RowKit Go.Proofs.YtfiamddinkokbaaW.PrintWords Go.Proofs.YtfiamddinkokbaaW.PrintLast Go.Proofs.YtfiamddinkokbaaW.PrintMore
attribute [local go_sem] max2_int min2_int max_two min_two max_three min_three max_four min_four
set_option linter.unusedVariables false
set_option linter.unusedSimpArgs false
theorem eqA109 (d : Nat) (w : World) (x0 y0 : ByteArray) (x1 y1 : ByteArray) (x2 y2 : ByteArray) (x3 y3 : Bool) (x4 y4 : ByteArray) (x5 y5 : ByteArray) (x6 y6 : ByteArray) (x7 y7 : ByteArray) (x8 y8 : Bool) :
  (Op.equalIn (d + 2) 109 (.agg #[.string x0, .string x1, .string x2, .bool x3, .string x4, .string x5, .string x6, .string x7, .bool x8]) (.agg #[.string y0, .string y1, .string y2, .bool y3, .string y4, .string y5, .string y6, .string y7, .bool y8])).run Try.prog w = .ok (x0.toList == y0.toList && (x1.toList == y1.toList && (x2.toList == y2.toList && (x3 == y3 && (x4.toList == y4.toList && (x5.toList == y5.toList && (x6.toList == y6.toList && (x7.toList == y7.toList && (x8 == y8))))))))) w := by
 refine eqA_of Try.underlying109 (by kernel_rfl) ?_
 refine eqf_cons (by rfl) (by go_simp; rfl) (by go_simp; rfl) (by go_simp) ?_
 refine eqf_cons (by rfl) (by go_simp; rfl) (by go_simp; rfl) (by go_simp) ?_
 refine eqf_cons (by rfl) (by go_simp; rfl) (by go_simp; rfl) (by go_simp) ?_
 refine eqf_cons (by rfl) (by go_simp; rfl) (by go_simp; rfl) (by go_simp) ?_
 refine eqf_cons (by rfl) (by go_simp; rfl) (by go_simp; rfl) (by go_simp) ?_
 refine eqf_cons (by rfl) (by go_simp; rfl) (by go_simp; rfl) (by go_simp) ?_
 refine eqf_cons (by rfl) (by go_simp; rfl) (by go_simp; rfl) (by go_simp) ?_
 refine eqf_cons (by rfl) (by go_simp; rfl) (by go_simp; rfl) (by go_simp) ?_
 exact eqf_last (by rfl) (by go_simp; rfl) (by go_simp; rfl) (by go_simp)
end Go.Proofs.Ytfiamddinkokbaa.F
end

section
set_option linter.unusedVariables false
set_option linter.unusedSimpArgs false
namespace Go.Proofs.Ytfiamddinkokbaa.F
open Go.RowKit Go.Proofs.YtfiamddinkokbaaW.PrintWords Go.Proofs.YtfiamddinkokbaaW.PrintLast Go.Proofs.YtfiamddinkokbaaW.PrintMore
attribute [local go_sem] max2_int min2_int max_two min_two max_three min_three max_four min_four
set_option linter.unusedVariables false
set_option linter.unusedSimpArgs false
attribute [local go_sem high] eqA109
end Go.Proofs.Ytfiamddinkokbaa.F
end

section
set_option linter.unusedVariables false
set_option linter.unusedSimpArgs false
namespace Go.Proofs.Ytfiamddinkokbaa.F
open Go.RowKit Go.Proofs.YtfiamddinkokbaaW.PrintWords Go.Proofs.YtfiamddinkokbaaW.PrintLast Go.Proofs.YtfiamddinkokbaaW.PrintMore
attribute [local go_sem] max2_int min2_int max_two min_two max_three min_three max_four min_four
set_option linter.unusedVariables false
set_option linter.unusedSimpArgs false
end Go.Proofs.Ytfiamddinkokbaa.F
end

section
set_option linter.unusedVariables false
set_option linter.unusedSimpArgs false
namespace Go.Proofs.Ytfiamddinkokbaa.F
open Go.RowKit Go.Proofs.YtfiamddinkokbaaW.PrintWords Go.Proofs.YtfiamddinkokbaaW.PrintLast Go.Proofs.YtfiamddinkokbaaW.PrintMore
attribute [local go_sem] max2_int min2_int max_two min_two max_three min_three max_four min_four
set_option linter.unusedVariables false
set_option linter.unusedSimpArgs false
attribute [local go_sem high] eqA109
end Go.Proofs.Ytfiamddinkokbaa.F
end

section
set_option linter.unusedVariables false
set_option linter.unusedSimpArgs false
namespace Go.Proofs.Ytfiamddinkokbaa.F
open Go.RowKit Go.Proofs.YtfiamddinkokbaaW.PrintWords Go.Proofs.YtfiamddinkokbaaW.PrintLast Go.Proofs.YtfiamddinkokbaaW.PrintMore
attribute [local go_sem] max2_int min2_int max_two min_two max_three min_three max_four min_four
set_option linter.unusedVariables false
set_option linter.unusedSimpArgs false
end Go.Proofs.Ytfiamddinkokbaa.F
end

section
set_option linter.unusedVariables false
set_option linter.unusedSimpArgs false
namespace Go.Proofs.Ytfiamddinkokbaa.F
open Go.RowKit Go.Proofs.YtfiamddinkokbaaW.PrintWords Go.Proofs.YtfiamddinkokbaaW.PrintLast Go.Proofs.YtfiamddinkokbaaW.PrintMore
attribute [local go_sem] max2_int min2_int max_two min_two max_three min_three max_four min_four
set_option linter.unusedVariables false
set_option linter.unusedSimpArgs false
end Go.Proofs.Ytfiamddinkokbaa.F
end

section
set_option linter.unusedVariables false
set_option linter.unusedSimpArgs false
namespace Go.Proofs.Ytfiamddinkokbaa.F
open Go.RowKit Go.Proofs.YtfiamddinkokbaaW.PrintWords Go.Proofs.YtfiamddinkokbaaW.PrintLast Go.Proofs.YtfiamddinkokbaaW.PrintMore
attribute [local go_sem] max2_int min2_int max_two min_two max_three min_three max_four min_four
set_option linter.unusedVariables false
set_option linter.unusedSimpArgs false
end Go.Proofs.Ytfiamddinkokbaa.F
end

section
set_option linter.unusedVariables false
set_option linter.unusedSimpArgs false
namespace Go.Proofs.Ytfiamddinkokbaa.F
open Go.RowKit Go.Proofs.YtfiamddinkokbaaW.PrintWords Go.Proofs.YtfiamddinkokbaaW.PrintLast Go.Proofs.YtfiamddinkokbaaW.PrintMore
attribute [local go_sem] max2_int min2_int max_two min_two max_three min_three max_four min_four
set_option linter.unusedVariables false
set_option linter.unusedSimpArgs false
end Go.Proofs.Ytfiamddinkokbaa.F
end

section
set_option linter.unusedVariables false
set_option linter.unusedSimpArgs false
namespace Go.Proofs.Ytfiamddinkokbaa.F
open Go.RowKit Go.Proofs.YtfiamddinkokbaaW.PrintWords Go.Proofs.YtfiamddinkokbaaW.PrintLast Go.Proofs.YtfiamddinkokbaaW.PrintMore
attribute [local go_sem] max2_int min2_int max_two min_two max_three min_three max_four min_four
set_option linter.unusedVariables false
set_option linter.unusedSimpArgs false
end Go.Proofs.Ytfiamddinkokbaa.F
end

section
set_option linter.unusedVariables false
set_option linter.unusedSimpArgs false
namespace Go.Proofs.Ytfiamddinkokbaa.F
open Go.RowKit Go.Proofs.YtfiamddinkokbaaW.PrintWords Go.Proofs.YtfiamddinkokbaaW.PrintLast Go.Proofs.YtfiamddinkokbaaW.PrintMore
attribute [local go_sem] max2_int min2_int max_two min_two max_three min_three max_four min_four
set_option linter.unusedVariables false
set_option linter.unusedSimpArgs false
end Go.Proofs.Ytfiamddinkokbaa.F
end

section
set_option linter.unusedVariables false
set_option linter.unusedSimpArgs false
namespace Go.Proofs.Ytfiamddinkokbaa.F
open Go.RowKit Go.Proofs.YtfiamddinkokbaaW.PrintWords Go.Proofs.YtfiamddinkokbaaW.PrintLast Go.Proofs.YtfiamddinkokbaaW.PrintMore
attribute [local go_sem] max2_int min2_int max_two min_two max_three min_three max_four min_four
set_option linter.unusedVariables false
set_option linter.unusedSimpArgs false
end Go.Proofs.Ytfiamddinkokbaa.F
end

section
set_option linter.unusedVariables false
set_option linter.unusedSimpArgs false
namespace Go.Proofs.Ytfiamddinkokbaa.F
open Go.RowKit Go.Proofs.YtfiamddinkokbaaW.PrintWords Go.Proofs.YtfiamddinkokbaaW.PrintLast Go.Proofs.YtfiamddinkokbaaW.PrintMore
attribute [local go_sem] max2_int min2_int max_two min_two max_three min_three max_four min_four
set_option linter.unusedVariables false
set_option linter.unusedSimpArgs false
end Go.Proofs.Ytfiamddinkokbaa.F
end

section
set_option linter.unusedVariables false
set_option linter.unusedSimpArgs false
namespace Go.Proofs.Ytfiamddinkokbaa.F
open Go.RowKit Go.Proofs.YtfiamddinkokbaaW.PrintWords Go.Proofs.YtfiamddinkokbaaW.PrintLast Go.Proofs.YtfiamddinkokbaaW.PrintMore
attribute [local go_sem] max2_int min2_int max_two min_two max_three min_three max_four min_four
set_option linter.unusedVariables false
set_option linter.unusedSimpArgs false
end Go.Proofs.Ytfiamddinkokbaa.F
end

section
set_option linter.unusedVariables false
set_option linter.unusedSimpArgs false
namespace Go.Proofs.Ytfiamddinkokbaa.F
open Go.RowKit Go.Proofs.YtfiamddinkokbaaW.PrintWords Go.Proofs.YtfiamddinkokbaaW.PrintLast Go.Proofs.YtfiamddinkokbaaW.PrintMore
attribute [local go_sem] max2_int min2_int max_two min_two max_three min_three max_four min_four
set_option linter.unusedVariables false
set_option linter.unusedSimpArgs false
end Go.Proofs.Ytfiamddinkokbaa.F
end

section
set_option linter.unusedVariables false
set_option linter.unusedSimpArgs false
namespace Go.Proofs.Ytfiamddinkokbaa.F
open Go.RowKit Go.Proofs.YtfiamddinkokbaaW.PrintWords Go.Proofs.YtfiamddinkokbaaW.PrintLast Go.Proofs.YtfiamddinkokbaaW.PrintMore
attribute [local go_sem] max2_int min2_int max_two min_two max_three min_three max_four min_four
set_option linter.unusedVariables false
set_option linter.unusedSimpArgs false
end Go.Proofs.Ytfiamddinkokbaa.F
end

section
set_option linter.unusedVariables false
set_option linter.unusedSimpArgs false
namespace Go.Proofs.Ytfiamddinkokbaa.F
open Go.RowKit Go.Proofs.YtfiamddinkokbaaW.PrintWords Go.Proofs.YtfiamddinkokbaaW.PrintLast Go.Proofs.YtfiamddinkokbaaW.PrintMore
attribute [local go_sem] max2_int min2_int max_two min_two max_three min_three max_four min_four
set_option linter.unusedVariables false
set_option linter.unusedSimpArgs false
end Go.Proofs.Ytfiamddinkokbaa.F
end

section
set_option linter.unusedVariables false
set_option linter.unusedSimpArgs false
namespace Go.Proofs.Ytfiamddinkokbaa.F
open Go.RowKit Go.Shelf Go.Proofs.YtfiamddinkokbaaW.PrintWords
set_option linter.unusedVariables false
set_option linter.unusedSimpArgs false
def lineless (s : ByteArray) : Bool := decide (0 ≤ Lib.indexByte s.data.toList 10)
theorem new_cell0 (W : World) (cs : Array Value) (t : TypeId) (i : Nat) (v : Value) (h : cs[i]? = some v) : (W.alloc (.cells cs t)).cell? ⟨W.heap.size, i, none⟩ = some v := (blk_cell (World.alloc_heap_new W _) i).trans h
theorem tr0 {W W' : World} {p : Addr} {v : Value} (hb : Below W.heap.size W W') (h : W.cell? p = some v) : W'.cell? p = some v := (hb.cell (World.block_lt_of_cell? W _ h)).trans h
theorem encode_small : ∀ n : _root_.Fin 128, Utf8.encode ((n.val : Nat) : Int) = ⟨#[UInt8.ofNat n.val]⟩ := by decide +kernel
end Go.Proofs.Ytfiamddinkokbaa.F
end

section
set_option linter.unusedVariables false
set_option linter.unusedSimpArgs false
namespace Go.Proofs.Ytfiamddinkokbaa.F
open Go.RowKit Go.Shelf Go.Proofs.YtfiamddinkokbaaW.PrintWords
set_option linter.unusedVariables false
set_option linter.unusedSimpArgs false
theorem ln_size_toB (l : List UInt8) : (toB l).size = l.length := by rw [← show (toB l).data.toList.length = (toB l).size from Array.length_toList, data_toB]
theorem ln_bytes_ext {a b : ByteArray} (h : a.data.toList = b.data.toList) : a = b := by rw [← toB_data a, h, toB_data]
theorem ln_toList (s : ByteArray) : s.toList = s.data.toList := ByteArray.toList_eq s
def lineB (k : Int) (fl : Bool) (lb : ByteArray) (width : Int) : ByteArray :=
 toB (List.replicate width.toNat (UInt8.ofNat k.toNat) ++ ((if fl = true then [33] else []) ++ ((if lb.toList.isEmpty = true then [] else 32 :: lb.data.toList) ++ [10])))
theorem repeat_one (c : UInt8) : ∀ n : Nat, Lib.repeatL [c] n = List.replicate n c := by
 intro n
 induction n with
 | zero => rfl
 | succ n ih => simp [Lib.repeatL, ih, List.replicate_succ]
theorem line_repeat (n : Nat) (h : n < 128) (c : Nat) (hc : c ≤ 1073741824) (W : World) :
  Calls Try.prog 129 #[.string (Utf8.encode (n : Int)), .int .i64 c] W fun e w' => e = .returned (.string (toB (List.replicate c (UInt8.ofNat n)))) ∧ Below W.heap.size W w' := by
 have e1 := encode_small ⟨n, h⟩
 simp only at e1
 rw [e1]
 have hs : (⟨#[UInt8.ofNat n]⟩ : ByteArray).size = 1 := rfl
 refine (Try.strings_Repeat ⟨#[UInt8.ofNat n]⟩ c W (by omega) (by rw [hs]; omega)).mono ?_
 rintro e w' ⟨rfl, hb⟩
 refine ⟨?_, hb⟩
 have : Lib.repeatL (⟨#[UInt8.ofNat n]⟩ : ByteArray).data.toList c = List.replicate c (UInt8.ofNat n) := repeat_one _ c
 rw [this]; rfl
end Go.Proofs.Ytfiamddinkokbaa.F
end

section
set_option linter.unusedVariables false
set_option linter.unusedSimpArgs false
namespace Go.Proofs.Ytfiamddinkokbaa.F
open Go.RowKit Go.Shelf Go.Proofs.YtfiamddinkokbaaW.PrintWords
set_option linter.unusedVariables false
set_option linter.unusedSimpArgs false
set_option maxHeartbeats 8000000 in
set_option maxRecDepth 100000 in
theorem line_calls (k : Int) (fl : Bool) (lb : ByteArray) (width : Int) (w : World) (h0 : 0 ≤ k) (h1 : k < 128) (w0 : 0 ≤ width) (w1 : width ≤ 1073741824) (hl : lb.size ≤ 4000000000) :
  Calls Try.prog 96 #[.agg #[.int .u8 k, .bool fl, .string lb], .int .i64 width] w fun e w' => e = .returned (.string (lineB k fl lb width)) ∧ Below w.heap.size w w' := by
 obtain ⟨n, rfl⟩ := Int.eq_ofNat_of_zero_le h0
 obtain ⟨c, rfl⟩ := Int.eq_ofNat_of_zero_le w0
 have h2 : n < 128 := by omega
 have h3 : c ≤ 1073741824 := by omega
 have hs := line_repeat n h2 c h3
 unfold lineB
 rw [Int.toNat_natCast, Int.toNat_natCast]
 have ht : (toB (List.replicate c (UInt8.ofNat n))).size = c := by rw [ln_size_toB]; simp
 generalize hT : toB (List.replicate c (UInt8.ofNat n)) = t at hs ht
 have hT2 : List.replicate c (UInt8.ofNat n) = t.data.toList := by rw [← hT, data_toB]
 rw [hT2]
 clear hT hT2
 have f1 : (9223372036854775807 < t.size + 1) = False := eq_false (by omega)
 have f2 : (9223372036854775807 < 1 + lb.size) = False := eq_false (by omega)
 have f3 : (9223372036854775807 < t.size + (1 + lb.size)) = False := eq_false (by omega)
 have f4 : (9223372036854775807 < t.size + 1 + (1 + lb.size)) = False := eq_false (by omega)
 have f5 : (9223372036854775807 < t.size + (1 + lb.size) + 1) = False := eq_false (by omega)
 have f6 : (9223372036854775807 < t.size + 1 + (1 + lb.size) + 1) = False := eq_false (by omega)
 have f7 : (9223372036854775807 < t.size + 1 + 1) = False := eq_false (by omega)
 clear h2 h3 w0 w1 hl ht
 generalize hk : (n : Int) = k at *
 generalize hc : (c : Int) = cc at *
 clear hk hc n c
 have HE : Aside0 (lb.toList.isEmpty = true ↔ lb.data.toList = []) := ⟨by rw [List.isEmpty_iff, ln_toList]⟩
 have HB := Aside0.mk (below_alloc (Below.refl w.heap.size w) (.cells #[.int .u8 k, .bool fl, .string lb] 62))
 have c0 := new_cell0 w #[.int .u8 k, .bool fl, .string lb] 62 0 (.int .u8 k) rfl
 have c1 := new_cell0 w #[.int .u8 k, .bool fl, .string lb] 62 1 (.bool fl) rfl
 have c2 := new_cell0 w #[.int .u8 k, .bool fl, .string lb] 62 2 (.string lb) rfl
 go_enter Try.func96, Try.ntmps96
 go_wp2_with (first
  | (go_at_call 129; refine (hs _).mono ?_; rintro e w1 ⟨rfl, hb1⟩; replace c0 := tr0 hb1 c0; replace c1 := tr0 hb1 c1; replace c2 := tr0 hb1 c2; replace HB := Aside0.mk (below_step HB.out hb1); clear hb1 hs))
 all_goals go_ret
 all_goals refine ⟨?_, HB.out⟩
 all_goals first
  | (exfalso; simp_all; done)
  | (refine (?_ : Ending.returned (Value.string _) = Ending.returned (Value.string _)); refine congrArg Ending.returned (congrArg Value.string (ln_bytes_ext ?_)); simp [data_toB, *]; done)
  | (refine (?_ : Ending.returned (Value.string _) = Ending.returned (Value.string _)); refine congrArg Ending.returned (congrArg Value.string (ln_bytes_ext ?_)); simp_all [data_toB]; done)
end Go.Proofs.Ytfiamddinkokbaa.F
end

section
set_option linter.unusedVariables false
set_option linter.unusedSimpArgs false
namespace Go.Proofs.Ytfiamddinkokbaa.F
open Go.RowKit Go.Proofs.YtfiamddinkokbaaW.PrintWords Go.Proofs.YtfiamddinkokbaaW.PrintLast Go.Proofs.YtfiamddinkokbaaW.PrintMore
attribute [local go_sem] max2_int min2_int max_two min_two max_three min_three max_four min_four
set_option linter.unusedVariables false
set_option linter.unusedSimpArgs false
def mark_wide.f (a0 : Int) : Option (Bool) := if a0 ≥ 1 then (some (decide (a0 ≤ 1073741824))) else (some false)
set_option maxHeartbeats 8000000 in
set_option maxRecDepth 100000 in
theorem mark_wide.calls (a0 : Int) (r : Bool) (w : World) (h : mark_wide.f a0 = some r) :
  Calls Try.prog 86 #[.int .i64 a0] w fun e w' => e = .returned (.bool r) ∧ Drawn0 w w' := by
 have H : (if a0 ≥ 1 then (some (decide (a0 ≤ 1073741824))) else (some false)) = some r := h
 clear h
 by_cases c2 : a0 ≥ 1
 ·rw [if_pos c2] at H
  have c2b0 : decide (1 ≤ a0) = true := decide_eq_true c2
  clear c2
  obtain rfl := Option.some.inj H
  go_enter Try.func86, Try.ntmps86
  go_wp2
  go_ret
  exact ⟨by first | rfl | (simp; done) | (simp [*]; done), by repeat (first | exact Drawn0.refl _ | apply Drawn0.step)⟩
 ·rw [if_neg c2] at H
  have c2b0 : decide (1 ≤ a0) = false := decide_eq_false c2
  clear c2
  obtain rfl := Option.some.inj H
  go_enter Try.func86, Try.ntmps86
  go_wp2
  go_ret
  exact ⟨by first | rfl | (simp; done) | (simp [*]; done), by repeat (first | exact Drawn0.refl _ | apply Drawn0.step)⟩
end Go.Proofs.Ytfiamddinkokbaa.F
end

section
set_option linter.unusedVariables false
set_option linter.unusedSimpArgs false
namespace Go.Proofs.Ytfiamddinkokbaa.F
open Go.RowKit Go.Proofs.YtfiamddinkokbaaW.PrintWords Go.Proofs.YtfiamddinkokbaaW.PrintLast Go.Proofs.YtfiamddinkokbaaW.PrintMore
attribute [local go_sem] max2_int min2_int max_two min_two max_three min_three max_four min_four
set_option linter.unusedVariables false
set_option linter.unusedSimpArgs false
end Go.Proofs.Ytfiamddinkokbaa.F
end

section
set_option linter.unusedVariables false
set_option linter.unusedSimpArgs false
namespace Go.Proofs.Ytfiamddinkokbaa.F
open Go.RowKit Go.Proofs.YtfiamddinkokbaaW.PrintWords Go.Proofs.YtfiamddinkokbaaW.PrintLast Go.Proofs.YtfiamddinkokbaaW.PrintMore
attribute [local go_sem] max2_int min2_int max_two min_two max_three min_three max_four min_four
set_option linter.unusedVariables false
set_option linter.unusedSimpArgs false
end Go.Proofs.Ytfiamddinkokbaa.F
end

section
set_option linter.unusedVariables false
set_option linter.unusedSimpArgs false
namespace Go.Proofs.Ytfiamddinkokbaa.F
open Go.RowKit Go.Proofs.YtfiamddinkokbaaW.PrintWords Go.Proofs.YtfiamddinkokbaaW.PrintLast Go.Proofs.YtfiamddinkokbaaW.PrintMore
attribute [local go_sem] max2_int min2_int max_two min_two max_three min_three max_four min_four
set_option linter.unusedVariables false
set_option linter.unusedSimpArgs false
end Go.Proofs.Ytfiamddinkokbaa.F
end

section
set_option linter.unusedVariables false
set_option linter.unusedSimpArgs false
namespace Go.Proofs.Ytfiamddinkokbaa.F
open Go.RowKit Go.Proofs.YtfiamddinkokbaaW.PrintWords Go.Proofs.YtfiamddinkokbaaW.PrintLast Go.Proofs.YtfiamddinkokbaaW.PrintMore
attribute [local go_sem] max2_int min2_int max_two min_two max_three min_three max_four min_four
set_option linter.unusedVariables false
set_option linter.unusedSimpArgs false
end Go.Proofs.Ytfiamddinkokbaa.F
end

section
set_option linter.unusedVariables false
set_option linter.unusedSimpArgs false
namespace Go.Proofs.Ytfiamddinkokbaa.F
open Go.RowKit Go.Proofs.YtfiamddinkokbaaW.PrintWords Go.Proofs.YtfiamddinkokbaaW.PrintLast Go.Proofs.YtfiamddinkokbaaW.PrintMore
attribute [local go_sem] max2_int min2_int max_two min_two max_three min_three max_four min_four
set_option linter.unusedVariables false
set_option linter.unusedSimpArgs false
end Go.Proofs.Ytfiamddinkokbaa.F
end

section
set_option linter.unusedVariables false
set_option linter.unusedSimpArgs false
namespace Go.Proofs.Ytfiamddinkokbaa.F
open Go.RowKit Go.Proofs.YtfiamddinkokbaaW.PrintWords Go.Proofs.YtfiamddinkokbaaW.PrintLast Go.Proofs.YtfiamddinkokbaaW.PrintMore
attribute [local go_sem] max2_int min2_int max_two min_two max_three min_three max_four min_four
set_option linter.unusedVariables false
set_option linter.unusedSimpArgs false
end Go.Proofs.Ytfiamddinkokbaa.F
end

section
set_option linter.unusedVariables false
set_option linter.unusedSimpArgs false
namespace Go.Proofs.Ytfiamddinkokbaa.F
open Go.RowKit Go.Proofs.YtfiamddinkokbaaW.PrintWords Go.Proofs.YtfiamddinkokbaaW.PrintLast Go.Proofs.YtfiamddinkokbaaW.PrintMore
attribute [local go_sem] max2_int min2_int max_two min_two max_three min_three max_four min_four
set_option linter.unusedVariables false
set_option linter.unusedSimpArgs false
end Go.Proofs.Ytfiamddinkokbaa.F
end
