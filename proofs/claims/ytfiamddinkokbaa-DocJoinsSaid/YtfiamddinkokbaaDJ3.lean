/- Texts joined into one file (wip/tools/pack.py): Fn74, Fn23, FeqA109, Fn25, Fn76, Fn26, Fn77, Fn27, Fn78, Fn28, Fn4 -/
import Derived.Test.YtfiamddinkokbaaDJ1
import Derived.Test.YtfiamddinkokbaaDJ2
section
set_option linter.unusedVariables false
set_option linter.unusedSimpArgs false
namespace Go.Proofs.Ytfiamddinkokbaa.F
open Go.RowKit Go.Proofs.YtfiamddinkokbaaW.PrintWords Go.Proofs.YtfiamddinkokbaaW.PrintLast Go.Proofs.YtfiamddinkokbaaW.PrintMore
attribute [local go_sem] max2_int min2_int max_two min_two max_three min_three max_four min_four
set_option linter.unusedVariables false
set_option linter.unusedSimpArgs false
def tripartitelaw07_part.f (a0_0 : ByteArray) (a0_1 : ByteArray) (a0_2 : ByteArray) (a0_3 : Bool) (a0_4 : ByteArray) (a0_5 : ByteArray) (a0_6 : ByteArray) (a0_7 : ByteArray) (a0_8 : Bool) : Option (ByteArray × ByteArray × ByteArray × Bool × ByteArray × ByteArray × ByteArray × ByteArray × Bool) := some (a0_0, a0_1, a0_2, a0_3, a0_4, a0_5, a0_6, a0_7, a0_8)
set_option maxHeartbeats 8000000 in
set_option maxRecDepth 100000 in
theorem tripartitelaw07_part.calls (a0_0 : ByteArray) (a0_1 : ByteArray) (a0_2 : ByteArray) (a0_3 : Bool) (a0_4 : ByteArray) (a0_5 : ByteArray) (a0_6 : ByteArray) (a0_7 : ByteArray) (a0_8 : Bool) (r1 : ByteArray) (r2 : ByteArray) (r3 : ByteArray) (r4 : Bool) (r5 : ByteArray) (r6 : ByteArray) (r7 : ByteArray) (r8 : ByteArray) (r9 : Bool) (w : World) (h : tripartitelaw07_part.f a0_0 a0_1 a0_2 a0_3 a0_4 a0_5 a0_6 a0_7 a0_8 = some (r1, r2, r3, r4, r5, r6, r7, r8, r9)) :
    Calls Try.prog 74 #[.agg #[.string a0_0, .string a0_1, .string a0_2, .bool a0_3, .string a0_4, .string a0_5, .string a0_6, .string a0_7, .bool a0_8]] w fun e w' => e = .returned (.agg #[.string r1, .string r2, .string r3, .bool r4, .string r5, .string r6, .string r7, .string r8, .bool r9]) ∧ Below w.heap.size w w' := by
  have hu109 := Try.underlying109
  have hu106 := Try.underlying106
  have hu84 := Try.underlying84
  have HB := Aside0.mk (Below.refl w.heap.size w)
  have H : (some (a0_0, a0_1, a0_2, a0_3, a0_4, a0_5, a0_6, a0_7, a0_8)) = some (r1, r2, r3, r4, r5, r6, r7, r8, r9) := h
  clear h
  simp only [Option.some.injEq, Prod.mk.injEq] at H
  obtain ⟨rfl, rfl, rfl, rfl, rfl, rfl, rfl, rfl, rfl⟩ := H
  go_enter Try.func74, Try.ntmps74
  go_wp2_with (first | ((with_reducible refine gate_dst (N := 1) rfl ?_); refine box_event ?hg (N := 1) ?hd (cs := #[.string a0_0, .string a0_1, .string a0_2, .bool a0_3, .string a0_4, .string a0_5, .string a0_6, .string a0_7, .bool a0_8]) (t := 109) ?hr ?_; (case hd => rfl); (case hg => rfl); (case hr => first | (go_simp; done) | (go_simp; rfl)); intro gb190 hg w2 hbox hb; have n0_ := Aside0.mk (below_step (by repeat (first | (with_reducible first | exact HB.out | apply below_alloc | apply pw_below_drewN | apply below_drew1) | exact HB.out)) hb); have n1_ := Aside0.mk (hbox); have n2_ := Aside0.mk ((by rw [hg]; exact (below_size (by repeat (first | (with_reducible first | exact HB.out | apply below_alloc | apply pw_below_drewN | apply below_drew1) | exact HB.out))) : w.heap.size ≤ gb190)); have n3_ := Aside0.mk ((by rw [hg]; exact (below_size (by repeat (first | (with_reducible first | exact HB.out | apply below_alloc | apply pw_below_drewN | apply below_drew1) | exact HB.out))) : w.heap.size ≤ gb190)); clear HB; have HB := n0_; have BK190 := n1_; have GW190 := n2_; have GE190 := n3_; clear n0_ n1_ n2_ n3_; clear hb hbox hg) | ((with_reducible refine gate_dst (N := 2) rfl ?_); refine box_event ?hg (N := 2) ?hd (cs := #[.string (⟨#[]⟩ : ByteArray), .string (⟨#[]⟩ : ByteArray), .string (⟨#[]⟩ : ByteArray), .bool false, .string (⟨#[]⟩ : ByteArray), .string (⟨#[]⟩ : ByteArray), .string (⟨#[]⟩ : ByteArray), .string (⟨#[]⟩ : ByteArray), .bool false]) (t := 106) ?hr ?_; (case hd => rfl); (case hg => rfl); (case hr => first | (go_simp; done) | (go_simp; rfl)); intro gb191 hg w3 hbox hb; have n0_ := Aside0.mk (blk_below (g := gb190) (o := .cells #[.string a0_0, .string a0_1, .string a0_2, .bool a0_3, .string a0_4, .string a0_5, .string a0_6, .string a0_7, .bool a0_8] 109 (0, 0)) (by (with_reducible repeat (first | refine blk_drewN ?_ _ | refine blk_drew ?_ | refine blk_alloc ?_ _)); exact BK190.out) hb); have n1_ := Aside0.mk (below_step (by repeat (first | (with_reducible first | exact HB.out | apply below_alloc | apply pw_below_drewN | apply below_drew1 | refine below_set ?_ GE190.out) | exact HB.out)) hb); have n2_ := Aside0.mk (hbox); have n3_ := Aside0.mk ((by rw [hg]; exact (below_size (by repeat (first | (with_reducible first | exact HB.out | apply below_alloc | apply pw_below_drewN | apply below_drew1 | refine below_set ?_ GE190.out) | exact HB.out))) : w.heap.size ≤ gb191)); have n4_ := Aside0.mk ((by rw [hg]; exact (below_size (by repeat (first | (with_reducible first | exact HB.out | apply below_alloc | apply pw_below_drewN | apply below_drew1 | refine below_set ?_ GE190.out) | exact HB.out))) : w.heap.size ≤ gb191)); have n5_ := Aside0.mk ((by rw [hg]; exact Nat.ne_of_lt (blk_lt (g := gb190) (o := .cells #[.string a0_0, .string a0_1, .string a0_2, .bool a0_3, .string a0_4, .string a0_5, .string a0_6, .string a0_7, .bool a0_8] 109 (0, 0)) (by (with_reducible repeat (first | refine blk_drewN ?_ _ | refine blk_drew ?_ | refine blk_alloc ?_ _)); exact BK190.out)) : gb190 ≠ gb191)); have n6_ := Aside0.mk ((by rw [hg]; exact Nat.ne_of_gt (blk_lt (g := gb190) (o := .cells #[.string a0_0, .string a0_1, .string a0_2, .bool a0_3, .string a0_4, .string a0_5, .string a0_6, .string a0_7, .bool a0_8] 109 (0, 0)) (by (with_reducible repeat (first | refine blk_drewN ?_ _ | refine blk_drew ?_ | refine blk_alloc ?_ _)); exact BK190.out)) : gb191 ≠ gb190)); clear BK190; clear HB; have BK190 := n0_; have HB := n1_; have BK191 := n2_; have GW191 := n3_; have GE191 := n4_; have NB190_191 := n5_; have NB191_190 := n6_; clear n0_ n1_ n2_ n3_ n4_ n5_ n6_; clear hb hbox hg; have hnb4 := NB190_191.out; have hnc4 := NB191_190.out; have hcz5_0 : w3.cell? ⟨gb190, 0, none⟩ = some (.string a0_0) := (blk_cell BK190.out 0).trans rfl; have hcz5_1 : w3.cell? ⟨gb190, 1, none⟩ = some (.string a0_1) := (blk_cell BK190.out 1).trans rfl; have hcz5_2 : w3.cell? ⟨gb190, 2, none⟩ = some (.string a0_2) := (blk_cell BK190.out 2).trans rfl; have hcz5_3 : w3.cell? ⟨gb190, 3, none⟩ = some (.bool a0_3) := (blk_cell BK190.out 3).trans rfl; have hcz5_4 : w3.cell? ⟨gb190, 4, none⟩ = some (.string a0_4) := (blk_cell BK190.out 4).trans rfl; have hcz5_5 : w3.cell? ⟨gb190, 5, none⟩ = some (.string a0_5) := (blk_cell BK190.out 5).trans rfl; have hcz5_6 : w3.cell? ⟨gb190, 6, none⟩ = some (.string a0_6) := (blk_cell BK190.out 6).trans rfl; have hcz5_7 : w3.cell? ⟨gb190, 7, none⟩ = some (.string a0_7) := (blk_cell BK190.out 7).trans rfl; have hcz5_8 : w3.cell? ⟨gb190, 8, none⟩ = some (.bool a0_8) := (blk_cell BK190.out 8).trans rfl; have hfz5_0 := blk_frozen BK190.out 0; have hfz5_1 := blk_frozen BK190.out 1; have hfz5_2 := blk_frozen BK190.out 2; have hfz5_3 := blk_frozen BK190.out 3; have hfz5_4 := blk_frozen BK190.out 4; have hfz5_5 := blk_frozen BK190.out 5; have hfz5_6 := blk_frozen BK190.out 6; have hfz5_7 := blk_frozen BK190.out 7; have hfz5_8 := blk_frozen BK190.out 8; have hcz6_0 : w3.cell? ⟨gb191, 0, none⟩ = some (.string (⟨#[]⟩ : ByteArray)) := (blk_cell BK191.out 0).trans rfl; have hcz6_1 : w3.cell? ⟨gb191, 1, none⟩ = some (.string (⟨#[]⟩ : ByteArray)) := (blk_cell BK191.out 1).trans rfl; have hcz6_2 : w3.cell? ⟨gb191, 2, none⟩ = some (.string (⟨#[]⟩ : ByteArray)) := (blk_cell BK191.out 2).trans rfl; have hcz6_3 : w3.cell? ⟨gb191, 3, none⟩ = some (.bool false) := (blk_cell BK191.out 3).trans rfl; have hcz6_4 : w3.cell? ⟨gb191, 4, none⟩ = some (.string (⟨#[]⟩ : ByteArray)) := (blk_cell BK191.out 4).trans rfl; have hcz6_5 : w3.cell? ⟨gb191, 5, none⟩ = some (.string (⟨#[]⟩ : ByteArray)) := (blk_cell BK191.out 5).trans rfl; have hcz6_6 : w3.cell? ⟨gb191, 6, none⟩ = some (.string (⟨#[]⟩ : ByteArray)) := (blk_cell BK191.out 6).trans rfl; have hcz6_7 : w3.cell? ⟨gb191, 7, none⟩ = some (.string (⟨#[]⟩ : ByteArray)) := (blk_cell BK191.out 7).trans rfl; have hcz6_8 : w3.cell? ⟨gb191, 8, none⟩ = some (.bool false) := (blk_cell BK191.out 8).trans rfl; have hfz6_0 := blk_frozen BK191.out 0; have hfz6_1 := blk_frozen BK191.out 1; have hfz6_2 := blk_frozen BK191.out 2; have hfz6_3 := blk_frozen BK191.out 3; have hfz6_4 := blk_frozen BK191.out 4; have hfz6_5 := blk_frozen BK191.out 5; have hfz6_6 := blk_frozen BK191.out 6; have hfz6_7 := blk_frozen BK191.out 7; have hfz6_8 := blk_frozen BK191.out 8))
  refine bodyPost_ret (results_cell_row rfl _ _ gb191 106 #[.string a0_0, .string a0_1, .string a0_2, .bool a0_3, .string a0_4, .string a0_5, .string a0_6, .string a0_7, .bool a0_8] (0, 0) _ rfl (by (with_reducible repeat (first | refine blk_drewN ?_ _ | refine blk_drew ?_ | refine blk_alloc ?_ _)); refine blk_put (cs := #[.string a0_0, .string a0_1, .string a0_2, .bool a0_3, .string a0_4, .string a0_5, .string a0_6, .string a0_7, .bool false]) ?_ 8 _ rfl; (with_reducible repeat (first | refine blk_drewN ?_ _ | refine blk_drew ?_ | refine blk_alloc ?_ _)); refine blk_put (cs := #[.string a0_0, .string a0_1, .string a0_2, .bool a0_3, .string a0_4, .string a0_5, .string a0_6, .string (⟨#[]⟩ : ByteArray), .bool false]) ?_ 7 _ rfl; (with_reducible repeat (first | refine blk_drewN ?_ _ | refine blk_drew ?_ | refine blk_alloc ?_ _)); refine blk_put (cs := #[.string a0_0, .string a0_1, .string a0_2, .bool a0_3, .string a0_4, .string a0_5, .string (⟨#[]⟩ : ByteArray), .string (⟨#[]⟩ : ByteArray), .bool false]) ?_ 6 _ rfl; (with_reducible repeat (first | refine blk_drewN ?_ _ | refine blk_drew ?_ | refine blk_alloc ?_ _)); refine blk_put (cs := #[.string a0_0, .string a0_1, .string a0_2, .bool a0_3, .string a0_4, .string (⟨#[]⟩ : ByteArray), .string (⟨#[]⟩ : ByteArray), .string (⟨#[]⟩ : ByteArray), .bool false]) ?_ 5 _ rfl; (with_reducible repeat (first | refine blk_drewN ?_ _ | refine blk_drew ?_ | refine blk_alloc ?_ _)); refine blk_put (cs := #[.string a0_0, .string a0_1, .string a0_2, .bool a0_3, .string (⟨#[]⟩ : ByteArray), .string (⟨#[]⟩ : ByteArray), .string (⟨#[]⟩ : ByteArray), .string (⟨#[]⟩ : ByteArray), .bool false]) ?_ 4 _ rfl; (with_reducible repeat (first | refine blk_drewN ?_ _ | refine blk_drew ?_ | refine blk_alloc ?_ _)); refine blk_put (cs := #[.string a0_0, .string a0_1, .string a0_2, .bool false, .string (⟨#[]⟩ : ByteArray), .string (⟨#[]⟩ : ByteArray), .string (⟨#[]⟩ : ByteArray), .string (⟨#[]⟩ : ByteArray), .bool false]) ?_ 3 _ rfl; (with_reducible repeat (first | refine blk_drewN ?_ _ | refine blk_drew ?_ | refine blk_alloc ?_ _)); refine blk_put (cs := #[.string a0_0, .string a0_1, .string (⟨#[]⟩ : ByteArray), .bool false, .string (⟨#[]⟩ : ByteArray), .string (⟨#[]⟩ : ByteArray), .string (⟨#[]⟩ : ByteArray), .string (⟨#[]⟩ : ByteArray), .bool false]) ?_ 2 _ rfl; (with_reducible repeat (first | refine blk_drewN ?_ _ | refine blk_drew ?_ | refine blk_alloc ?_ _)); refine blk_put (cs := #[.string a0_0, .string (⟨#[]⟩ : ByteArray), .string (⟨#[]⟩ : ByteArray), .bool false, .string (⟨#[]⟩ : ByteArray), .string (⟨#[]⟩ : ByteArray), .string (⟨#[]⟩ : ByteArray), .string (⟨#[]⟩ : ByteArray), .bool false]) ?_ 1 _ rfl; (with_reducible repeat (first | refine blk_drewN ?_ _ | refine blk_drew ?_ | refine blk_alloc ?_ _)); refine blk_put (cs := #[.string (⟨#[]⟩ : ByteArray), .string (⟨#[]⟩ : ByteArray), .string (⟨#[]⟩ : ByteArray), .bool false, .string (⟨#[]⟩ : ByteArray), .string (⟨#[]⟩ : ByteArray), .string (⟨#[]⟩ : ByteArray), .string (⟨#[]⟩ : ByteArray), .bool false]) ?_ 0 _ rfl; (with_reducible repeat (first | refine blk_drewN ?_ _ | refine blk_drew ?_ | refine blk_alloc ?_ _)); exact BK191.out) Try.underlying106 rfl (by kernel_rfl)) rfl ?_
  exact ⟨by first | rfl | (simp [errW_none, errW_some] <;> rfl) | (simp [*, errW_none, errW_some] <;> rfl), by repeat (first | (with_reducible first | exact HB.out | apply below_alloc | apply pw_below_drewN | apply below_drew1 | refine below_set ?_ GE190.out | refine below_set ?_ GE191.out) | exact HB.out)⟩
end Go.Proofs.Ytfiamddinkokbaa.F
end

section
set_option linter.unusedVariables false
set_option linter.unusedSimpArgs false
namespace Go.Proofs.Ytfiamddinkokbaa.F
open Go.RowKit Go.Proofs.YtfiamddinkokbaaW.PrintWords Go.Proofs.YtfiamddinkokbaaW.PrintLast Go.Proofs.YtfiamddinkokbaaW.PrintMore
attribute [local go_sem] max2_int min2_int max_two min_two max_three min_three max_four min_four
set_option linter.unusedVariables false
set_option linter.unusedSimpArgs false
def tripartitelaw07_To.l0 : Nat → List (S109) → List (S106) → Int → Option ((List (S106)))
  | 0, _, _, _ => none
  | k + 1, x0, x3, x4 => if x4 < (x0.length : Int) then (if 0 ≤ x4 then ((tripartitelaw07_part.f ((rd_T109 x0 x4).f0) ((rd_T109 x0 x4).f1) ((rd_T109 x0 x4).f2) ((rd_T109 x0 x4).f3) ((rd_T109 x0 x4).f4) ((rd_T109 x0 x4).f5) ((rd_T109 x0 x4).f6) ((rd_T109 x0 x4).f7) ((rd_T109 x0 x4).f8)).bind fun bt193 => (if x3.length < 1099511627776 then (tripartitelaw07_To.l0 k x0 (x3 ++ [(⟨(⟨bt193.1, bt193.2.1, bt193.2.2.1⟩ : S84), bt193.2.2.2.1, bt193.2.2.2.2.1, bt193.2.2.2.2.2.1, bt193.2.2.2.2.2.2.1, bt193.2.2.2.2.2.2.2.1, bt193.2.2.2.2.2.2.2.2⟩ : S106)]) (wrap64 (x4 + 1))) else (none))) else (none)) else (some x3)
def tripartitelaw07_To.f (k : Nat) (l0 : List (S109)) : Option ((List (S106))) := tripartitelaw07_To.l0 k l0 ([] : List (S106)) 0
theorem tripartitelaw07_To.mono_l : ∀ k, (∀ y0 y1 y2, LeO (tripartitelaw07_To.l0 k y0 y1 y2) (tripartitelaw07_To.l0 (k + 1) y0 y1 y2))
  | 0 => fun _ _ _ r h => by simp [tripartitelaw07_To.l0] at h
  | k + 1 => by
    have ih0 := tripartitelaw07_To.mono_l k
    · intro y0 y1 y2
      unfold tripartitelaw07_To.l0
      repeat' first
      | (with_reducible exact ih0 _ _ _)
      | (with_reducible exact LeO.refl _)
      | (with_reducible exact LeO.none _)
      | (with_reducible refine LeO.ite ?_ ?_)
      | (with_reducible refine LeO.bind ?_ (fun _ => ?_))
      | exact ih0 _ _ _
      | exact LeO.none _
      | refine LeO.ite ?_ ?_
      | refine LeO.bind ?_ (fun _ => ?_)
theorem tripartitelaw07_To.mono : ∀ a0 k, LeO (tripartitelaw07_To.f k a0) (tripartitelaw07_To.f (k + 1) a0) := by
  intro a0 k
  have ih0 := tripartitelaw07_To.mono_l k
  unfold tripartitelaw07_To.f
  repeat' first
      | (with_reducible exact ih0 _ _ _)
      | (with_reducible exact LeO.refl _)
      | (with_reducible exact LeO.none _)
      | (with_reducible refine LeO.ite ?_ ?_)
      | (with_reducible refine LeO.bind ?_ (fun _ => ?_))
      | exact ih0 _ _ _
      | exact LeO.none _
      | refine LeO.ite ?_ ?_
      | refine LeO.bind ?_ (fun _ => ?_)
set_option maxHeartbeats 8000000 in
set_option maxRecDepth 100000 in
theorem tripartitelaw07_To.calls (k : Nat) (A0 : Option Addr) (c0 : Nat) (l0 : List (S109)) (r : List (S106)) (w : World) (hr0 : Kd.C k109 w A0 l0.length l0) (hc0 : l0.length ≤ c0) (h : tripartitelaw07_To.f k l0 = some r) :
    Calls Try.prog 23 #[.slice A0 l0.length c0] w fun e w' => ∃ v0_ : Value, e = .returned (v0_) ∧ Kd.R k106 106 w' w.heap.size (fun _ => True) v0_ r ∧ Below w.heap.size w w' := by
  have hu109 := Try.underlying109
  have HR0 := Aside0.mk hr0
  have HC0 := Aside0.mk hc0
  clear hr0 hc0
  have HB := Aside0.mk (Below.refl w.heap.size w)
  have H : (tripartitelaw07_To.l0 k l0 ([] : List (S106)) 0) = some r := h
  clear h
  have H' := Aside0.mk H
  clear H
  go_enter Try.func23, Try.ntmps23
  go_wp2
  go_loopg [3, 4] k (fun kq v3 v4 w' => ∃ (x3_1 : List (S106)) (x4_1 : Int), v4 = .int .i64 x4_1 ∧ Aside0 (tripartitelaw07_To.l0 kq l0 x3_1 x4_1 = some r) ∧ Aside0 (kq ≤ k) ∧ Aside0 (Kd.R k106 106 w' w.heap.size (fun _ => True) v3 x3_1) ∧ Aside0 (Below w.heap.size w w'))
  case atStart => exact ⟨(([] : List (S106))), (0), (by first | rfl | (simp; done) | (simp [*]; done)), H', ⟨Nat.le_refl _⟩, ⟨by first | exact Kd.R_nil _ _ _ _ _ | exact Kd.N_nil _ _ _ _ _ | exact Kd.V_nil _ _ _ _ _ | exact Kd.Q_nil _ _ _ _ _ | exact Kd.S_nil _ _ _ _ _⟩, ⟨by repeat (first | (with_reducible first | exact HB.out | apply below_alloc | apply pw_below_drewN | apply below_drew1) | exact HB.out)⟩⟩
  case round =>
    clear H'
    obtain ⟨x3_1, x4_1, rfl, HA, HK1, HO_3, HB⟩ := hrel
    cases gk with
    | zero => exact absurd HA.out (by simp [tripartitelaw07_To.l0])
    | succ k1 =>
      have H := HA.out
      clear HA
      simp only [tripartitelaw07_To.l0] at H
      by_cases c2 : x4_1 < (l0.length : Int)
      · rw [if_pos c2] at H
        have c2b0 : decide (x4_1 < (l0.length : Int)) = true := decide_eq_true c2
        clear c2
        by_cases c3 : 0 ≤ x4_1
        · rw [if_pos c3] at H
          have c3b0 : decide (0 ≤ x4_1) = true := decide_eq_true c3
          clear c3
          replace H := Option.bind_eq_some_iff.mp H
          obtain ⟨⟨t193, t194, t195, t196, t197, t198, t199, t200, t201⟩, A40, H⟩ := H
          replace H : (if x3_1.length < 1099511627776 then (tripartitelaw07_To.l0 k1 l0 (x3_1 ++ [(⟨(⟨t193, t194, t195⟩ : S84), t196, t197, t198, t199, t200, t201⟩ : S106)]) (wrap64 (x4_1 + 1))) else (none)) = some r := H
          have A4 := Aside0.mk A40
          clear A40
          by_cases c5 : x3_1.length < 1099511627776
          · rw [if_pos c5] at H
            have LMc5 := Aside0.mk c5
            clear c5
            obtain ⟨y202, hy202⟩ : ∃ y_ : List (S106), y_ = (x3_1 ++ [(⟨(⟨t193, t194, t195⟩ : S84), t196, t197, t198, t199, t200, t201⟩ : S106)]) := ⟨_, rfl⟩
            replace H : (tripartitelaw07_To.l0 k1 l0 y202 (wrap64 (x4_1 + 1))) = some r := by first | (rw [hy202]; with_reducible exact H) | (have H2_ := (Option.bind_some _ _).symm.trans H; rw [hy202]; with_reducible exact H2_) | (have H2_ := (Option.bind_some _ _).symm.trans H; with_reducible exact H2_) | with_reducible exact H | (rw [hy202]; exact H) | exact H
            have Ny202 := Aside0.mk hy202
            clear hy202
            have H' := Aside0.mk H
            clear H
            have p192 : 0 ≤ (x4_1 : Int) := of_decide_eq_true (by first | (with_reducible assumption) | assumption)
            have q192 : x4_1 < (l0.length : Int) := of_decide_eq_true (by first | (with_reducible assumption) | assumption)
            obtain ⟨ad192, e192, hx192_0, hx192_1, hx192_2, hx192_3, hx192_4, hx192_5, hx192_6, hx192_7, hx192_8⟩ := at_T109 HR0.out x4_1 p192 q192
            cases e192
            replace hx192_0 := (HB.out.cell (World.block_lt_of_cell? w _ hx192_0)).trans hx192_0
            replace hx192_1 := (HB.out.cell (World.block_lt_of_cell? w _ hx192_1)).trans hx192_1
            replace hx192_2 := (HB.out.cell (World.block_lt_of_cell? w _ hx192_2)).trans hx192_2
            replace hx192_3 := (HB.out.cell (World.block_lt_of_cell? w _ hx192_3)).trans hx192_3
            replace hx192_4 := (HB.out.cell (World.block_lt_of_cell? w _ hx192_4)).trans hx192_4
            replace hx192_5 := (HB.out.cell (World.block_lt_of_cell? w _ hx192_5)).trans hx192_5
            replace hx192_6 := (HB.out.cell (World.block_lt_of_cell? w _ hx192_6)).trans hx192_6
            replace hx192_7 := (HB.out.cell (World.block_lt_of_cell? w _ hx192_7)).trans hx192_7
            replace hx192_8 := (HB.out.cell (World.block_lt_of_cell? w _ hx192_8)).trans hx192_8
            replace p192 := eq_true p192
            replace q192 := eq_true q192
            go_wp2_with (first | ((with_reducible refine gate_callee (f := 74) rfl ?_); refine goesL_ (some 16) rfl rfl Try.func74 (by kernel_rfl) rfl #[.agg #[.string ((rd_T109 l0 x4_1).f0), .string ((rd_T109 l0 x4_1).f1), .string ((rd_T109 l0 x4_1).f2), .bool ((rd_T109 l0 x4_1).f3), .string ((rd_T109 l0 x4_1).f4), .string ((rd_T109 l0 x4_1).f5), .string ((rd_T109 l0 x4_1).f6), .string ((rd_T109 l0 x4_1).f7), .bool ((rd_T109 l0 x4_1).f8)]] rfl (by (try simp only [List.map_toArray, List.map_cons, List.map_nil]); first | done | rfl | (simp only [List.length_drop, List.length_take]; rfl)) ?_; (with_reducible refine (tripartitelaw07_part.calls ((rd_T109 l0 x4_1).f0) ((rd_T109 l0 x4_1).f1) ((rd_T109 l0 x4_1).f2) ((rd_T109 l0 x4_1).f3) ((rd_T109 l0 x4_1).f4) ((rd_T109 l0 x4_1).f5) ((rd_T109 l0 x4_1).f6) ((rd_T109 l0 x4_1).f7) ((rd_T109 l0 x4_1).f8) t193 t194 t195 t196 t197 t198 t199 t200 t201 _ A4.out).mono ?_); rintro e w6 ⟨rfl, hb⟩; refine ⟨_, rfl, ?_⟩; have n0_ := Aside0.mk (Kd.R_below (by (with_reducible repeat (first | apply Kd.R_alloc | apply Kd.R_drewN | apply Kd.R_drew)); exact HO_3.out) hb); have n1_ := Aside0.mk (below_step (by repeat (first | (with_reducible first | exact HB.out | apply below_alloc | apply pw_below_drewN | apply below_drew1) | exact HB.out)) hb); clear HO_3; clear HB; have HO_3 := n0_; have HB := n1_; clear n0_ n1_; (try clear hb); (try clear hb2); (try clear hk); (try clear hi)) | ((with_reducible refine gate_builtin (b := .append) (xs := #[.tmp 11, .tmp 17]) rfl ?_); at_builtin; refine Kd.R_append k106 (w0 := w) w.heap.size rfl (.tmp 11) (.tmp 17) 29 106 (.agg #[(.string ⟨#[]⟩), (.string ⟨#[]⟩), (.string ⟨#[]⟩), (.bool false), (.string ⟨#[]⟩), (.string ⟨#[]⟩), (.string ⟨#[]⟩), (.string ⟨#[]⟩), (.bool false)]) 128 rfl Try.underlying29 info106 rfl (by decide) (by omega) u3 x3_1 (⟨(⟨t193, t194, t195⟩ : S84), t196, t197, t198, t199, t200, t201⟩ : S106) [.string t193, .string t194, .string t195, .bool t196, .string t197, .string t198, .string t199, .string t200, .bool t201] (fun _ => True) (fun _ => False) rfl rfl ?aP (fun _ hk => hk.elim) ?aF ?aO ?aB ?aS ?aL ?_; (case aP => exact k106_mkM _ _ _ (⟨(⟨t193, t194, t195⟩ : S84), t196, t197, t198, t199, t200, t201⟩ : S106)); (case aB => exact (by repeat (first | (with_reducible first | exact HB.out | apply below_alloc | apply pw_below_drewN | apply below_drew1) | exact HB.out))); (case aF => exact (fun _ _ => trivial)); (case aO => exact (by (with_reducible repeat (first | apply Kd.R_alloc | apply Kd.R_drewN | apply Kd.R_drew)); exact HO_3.out)); (case aS => exact (below_size (by repeat (first | (with_reducible first | exact HB.out | apply below_alloc | apply pw_below_drewN | apply below_drew1) | exact HB.out)))); (case aL => have := LMc5.out; omega); intro v203 w7 ho hb hg hat; rw [← Ny202.out] at ho; have n0_ := Aside0.mk (hb); have n1_ := Aside0.mk (ho); clear HB; clear HO_3; have HB := n0_; have HO204 := n1_; clear n0_ n1_; clear ho hb hg hat))
            go_roundg k1
            case measure => have := HK1.out; omega
            case rel => exact ⟨(y202), (wrap64 (x4_1 + 1)), (by first | rfl | (simp; done) | (simp [*]; done)), H', ⟨by have := HK1.out; omega⟩, ⟨by (with_reducible repeat (first | apply Kd.R_alloc | apply Kd.R_drewN | apply Kd.R_drew)); exact HO204.out⟩, ⟨by repeat (first | (with_reducible first | exact HB.out | apply below_alloc | apply pw_below_drewN | apply below_drew1) | exact HB.out)⟩⟩
          · rw [if_neg c5] at H
            exact absurd H (by simp)
        · rw [if_neg c3] at H
          exact absurd H (by simp)
      · rw [if_neg c2] at H
        have c2b0 : decide (x4_1 < (l0.length : Int)) = false := decide_eq_false c2
        clear c2
        obtain rfl := Option.some.inj H
        go_wp2
        go_ret
        exact ⟨_, by first | rfl | (simp [errW_none, errW_some] <;> rfl) | (simp [*, errW_none, errW_some] <;> rfl), by (with_reducible repeat (first | apply Kd.R_alloc | apply Kd.R_drewN | apply Kd.R_drew)); exact HO_3.out, by repeat (first | (with_reducible first | exact HB.out | apply below_alloc | apply pw_below_drewN | apply below_drew1) | exact HB.out)⟩
end Go.Proofs.Ytfiamddinkokbaa.F
end

section
set_option linter.unusedVariables false
set_option linter.unusedSimpArgs false
namespace Go.Proofs.Ytfiamddinkokbaa.F
open Go.RowKit Go.Proofs.YtfiamddinkokbaaW.PrintWords Go.Proofs.YtfiamddinkokbaaW.PrintLast Go.Proofs.YtfiamddinkokbaaW.PrintMore
attribute [local go_sem] max2_int min2_int max_two min_two max_three min_three max_four min_four
set_option linter.unusedVariables false
set_option linter.unusedSimpArgs false
theorem eqA109 (d : Nat) (w : World) (x0 y0 : ByteArray) (x1 y1 : ByteArray) (x2 y2 : ByteArray) (x3 y3 : Bool) (x4 y4 : ByteArray) (x5 y5 : ByteArray) (x6 y6 : ByteArray) (x7 y7 : ByteArray) (x8 y8 : Bool) :
    (Op.equalIn (d + 2) 109 (.agg #[.string x0, .string x1, .string x2, .bool x3, .string x4, .string x5, .string x6, .string x7, .bool x8]) (.agg #[.string y0, .string y1, .string y2, .bool y3, .string y4, .string y5, .string y6, .string y7, .bool y8])).run Try.prog w = .ok (x0.toList == y0.toList && (x1.toList == y1.toList && (x2.toList == y2.toList && (x3 == y3 && (x4.toList == y4.toList && (x5.toList == y5.toList && (x6.toList == y6.toList && (x7.toList == y7.toList && (x8 == y8))))))))) w := by
  refine eqA_of Try.underlying109 (by kernel_rfl) ?_
  refine eqf_cons (by rfl) (by go_simp; rfl) (by go_simp; rfl) (by go_simp) ?_
  refine eqf_cons (by rfl) (by go_simp; rfl) (by go_simp; rfl) (by go_simp) ?_
  refine eqf_cons (by rfl) (by go_simp; rfl) (by go_simp; rfl) (by go_simp) ?_
  refine eqf_cons (by rfl) (by go_simp; rfl) (by go_simp; rfl) (by go_simp) ?_
  refine eqf_cons (by rfl) (by go_simp; rfl) (by go_simp; rfl) (by go_simp) ?_
  refine eqf_cons (by rfl) (by go_simp; rfl) (by go_simp; rfl) (by go_simp) ?_
  refine eqf_cons (by rfl) (by go_simp; rfl) (by go_simp; rfl) (by go_simp) ?_
  refine eqf_cons (by rfl) (by go_simp; rfl) (by go_simp; rfl) (by go_simp) ?_
  exact eqf_last (by rfl) (by go_simp; rfl) (by go_simp; rfl) (by go_simp)
end Go.Proofs.Ytfiamddinkokbaa.F
end

section
set_option linter.unusedVariables false
set_option linter.unusedSimpArgs false
namespace Go.Proofs.Ytfiamddinkokbaa.F
open Go.RowKit Go.Proofs.YtfiamddinkokbaaW.PrintWords Go.Proofs.YtfiamddinkokbaaW.PrintLast Go.Proofs.YtfiamddinkokbaaW.PrintMore
attribute [local go_sem] max2_int min2_int max_two min_two max_three min_three max_four min_four
set_option linter.unusedVariables false
set_option linter.unusedSimpArgs false
attribute [local go_sem high] eqA109
def tripartiteref07_Same.l0 : Nat → List (S109) → List (S109) → Int → Option (Bool)
  | 0, _, _, _ => none
  | k + 1, x0, x1, x5 => if x5 < (x0.length : Int) then (if 0 ≤ x5 then (if x5 < (x1.length : Int) then (if (!((((rd_T109 x0 x5).f0).toList) == (((rd_T109 x1 x5).f0).toList)) || (!((((rd_T109 x0 x5).f1).toList) == (((rd_T109 x1 x5).f1).toList)) || (!((((rd_T109 x0 x5).f2).toList) == (((rd_T109 x1 x5).f2).toList)) || (!(((rd_T109 x0 x5).f3) == ((rd_T109 x1 x5).f3)) || (!((((rd_T109 x0 x5).f4).toList) == (((rd_T109 x1 x5).f4).toList)) || (!((((rd_T109 x0 x5).f5).toList) == (((rd_T109 x1 x5).f5).toList)) || (!((((rd_T109 x0 x5).f6).toList) == (((rd_T109 x1 x5).f6).toList)) || (!((((rd_T109 x0 x5).f7).toList) == (((rd_T109 x1 x5).f7).toList)) || (!(((rd_T109 x0 x5).f8) == ((rd_T109 x1 x5).f8))))))))))) = true then (some false) else (tripartiteref07_Same.l0 k x0 x1 (wrap64 (x5 + 1)))) else (none)) else (none)) else (some true)
def tripartiteref07_Same.f (k : Nat) (l0 : List (S109)) (l1 : List (S109)) : Option (Bool) := if (l0.length : Int) = (l1.length : Int) then (tripartiteref07_Same.l0 k l0 l1 0) else (some false)
theorem tripartiteref07_Same.mono_l : ∀ k, (∀ y0 y1 y2, LeO (tripartiteref07_Same.l0 k y0 y1 y2) (tripartiteref07_Same.l0 (k + 1) y0 y1 y2))
  | 0 => fun _ _ _ r h => by simp [tripartiteref07_Same.l0] at h
  | k + 1 => by
    have ih0 := tripartiteref07_Same.mono_l k
    · intro y0 y1 y2
      unfold tripartiteref07_Same.l0
      repeat' first
      | (with_reducible exact ih0 _ _ _)
      | (with_reducible exact LeO.refl _)
      | (with_reducible exact LeO.none _)
      | (with_reducible refine LeO.ite ?_ ?_)
      | (with_reducible refine LeO.bind ?_ (fun _ => ?_))
      | exact ih0 _ _ _
      | exact LeO.none _
      | refine LeO.ite ?_ ?_
      | refine LeO.bind ?_ (fun _ => ?_)
theorem tripartiteref07_Same.mono : ∀ a0 a1 k, LeO (tripartiteref07_Same.f k a0 a1) (tripartiteref07_Same.f (k + 1) a0 a1) := by
  intro a0 a1 k
  have ih0 := tripartiteref07_Same.mono_l k
  unfold tripartiteref07_Same.f
  repeat' first
      | (with_reducible exact ih0 _ _ _)
      | (with_reducible exact LeO.refl _)
      | (with_reducible exact LeO.none _)
      | (with_reducible refine LeO.ite ?_ ?_)
      | (with_reducible refine LeO.bind ?_ (fun _ => ?_))
      | exact ih0 _ _ _
      | exact LeO.none _
      | refine LeO.ite ?_ ?_
      | refine LeO.bind ?_ (fun _ => ?_)
set_option maxHeartbeats 8000000 in
set_option maxRecDepth 100000 in
theorem tripartiteref07_Same.calls (k : Nat) (A0 : Option Addr) (c0 : Nat) (l0 : List (S109)) (A1 : Option Addr) (c1 : Nat) (l1 : List (S109)) (r : Bool) (w : World) (hr0 : Kd.C k109 w A0 l0.length l0) (hc0 : l0.length ≤ c0) (hr1 : Kd.C k109 w A1 l1.length l1) (hc1 : l1.length ≤ c1) (h : tripartiteref07_Same.f k l0 l1 = some r) :
    Calls Try.prog 25 #[.slice A0 l0.length c0, .slice A1 l1.length c1] w fun e w' => e = .returned (.bool r) ∧ Drawn0 w w' := by
  have hu109 := Try.underlying109
  have HR0 := Aside0.mk hr0
  have HC0 := Aside0.mk hc0
  clear hr0 hc0
  have HR1 := Aside0.mk hr1
  have HC1 := Aside0.mk hc1
  clear hr1 hc1
  have H : (if (l0.length : Int) = (l1.length : Int) then (tripartiteref07_Same.l0 k l0 l1 0) else (some false)) = some r := h
  clear h
  by_cases c3 : (l0.length : Int) = (l1.length : Int)
  · rw [if_pos c3] at H
    have c3b0 : ((l0.length : Int) == (l1.length : Int)) = true := beq_iff_eq.mpr c3
    have c3b1 : ((l0.length : Int) != (l1.length : Int)) = false := bne_eq_false_iff_eq.mpr c3
    have c3b2 : (l0.length == l1.length) = true := by first | simpa using c3 | (simp at c3 ⊢; omega)
    clear c3
    have H' := Aside0.mk H
    clear H
    go_enter Try.func25, Try.ntmps25
    go_wp2
    repeat (go_quiet (fail); try go_wp2)
    go_loopg [5] k (fun kq v5 w' => ∃ (x5_1 : Int), v5 = .int .i64 x5_1 ∧ Aside0 (tripartiteref07_Same.l0 kq l0 l1 x5_1 = some r) ∧ Aside0 (kq ≤ k) ∧ Drawn0 w w')
    case atStart => exact ⟨(0), (by first | rfl | (simp; done) | (simp [*]; done)), H', ⟨Nat.le_refl _⟩, by repeat (first | exact Drawn0.refl _ | apply Drawn0.step)⟩
    case round =>
      clear H'
      try clear c1
      try clear c2
      try clear p2
      try clear c3
      try clear c3b0
      try clear c3b1
      try clear c3b2
      obtain ⟨x5_1, rfl, HA, HK1, ⟨m1, rfl⟩⟩ := hrel
      cases gk with
      | zero => exact absurd HA.out (by simp [tripartiteref07_Same.l0])
      | succ k1 =>
        have H := HA.out
        clear HA
        simp only [tripartiteref07_Same.l0] at H
        by_cases c4 : x5_1 < (l0.length : Int)
        · rw [if_pos c4] at H
          have c4b0 : decide (x5_1 < (l0.length : Int)) = true := decide_eq_true c4
          clear c4
          by_cases c5 : 0 ≤ x5_1
          · rw [if_pos c5] at H
            have c5b0 : decide (0 ≤ x5_1) = true := decide_eq_true c5
            clear c5
            by_cases c6 : x5_1 < (l1.length : Int)
            · rw [if_pos c6] at H
              have c6b0 : decide (x5_1 < (l1.length : Int)) = true := decide_eq_true c6
              clear c6
              by_cases c7 : (!((((rd_T109 l0 x5_1).f0).toList) == (((rd_T109 l1 x5_1).f0).toList)) || (!((((rd_T109 l0 x5_1).f1).toList) == (((rd_T109 l1 x5_1).f1).toList)) || (!((((rd_T109 l0 x5_1).f2).toList) == (((rd_T109 l1 x5_1).f2).toList)) || (!(((rd_T109 l0 x5_1).f3) == ((rd_T109 l1 x5_1).f3)) || (!((((rd_T109 l0 x5_1).f4).toList) == (((rd_T109 l1 x5_1).f4).toList)) || (!((((rd_T109 l0 x5_1).f5).toList) == (((rd_T109 l1 x5_1).f5).toList)) || (!((((rd_T109 l0 x5_1).f6).toList) == (((rd_T109 l1 x5_1).f6).toList)) || (!((((rd_T109 l0 x5_1).f7).toList) == (((rd_T109 l1 x5_1).f7).toList)) || (!(((rd_T109 l0 x5_1).f8) == ((rd_T109 l1 x5_1).f8))))))))))) = true
              · rw [if_pos c7] at H
                have c7b0 : (!((((rd_T109 l0 x5_1).f0).toList) == (((rd_T109 l1 x5_1).f0).toList)) || (!((((rd_T109 l0 x5_1).f1).toList) == (((rd_T109 l1 x5_1).f1).toList)) || (!((((rd_T109 l0 x5_1).f2).toList) == (((rd_T109 l1 x5_1).f2).toList)) || (!(((rd_T109 l0 x5_1).f3) == ((rd_T109 l1 x5_1).f3)) || (!((((rd_T109 l0 x5_1).f4).toList) == (((rd_T109 l1 x5_1).f4).toList)) || (!((((rd_T109 l0 x5_1).f5).toList) == (((rd_T109 l1 x5_1).f5).toList)) || (!((((rd_T109 l0 x5_1).f6).toList) == (((rd_T109 l1 x5_1).f6).toList)) || (!((((rd_T109 l0 x5_1).f7).toList) == (((rd_T109 l1 x5_1).f7).toList)) || (!(((rd_T109 l0 x5_1).f8) == ((rd_T109 l1 x5_1).f8))))))))))) = true := c7
                clear c7
                obtain rfl := Option.some.inj H
                have p205 : 0 ≤ (x5_1 : Int) := of_decide_eq_true (by first | (with_reducible assumption) | assumption)
                have q205 : x5_1 < (l0.length : Int) := of_decide_eq_true (by first | (with_reducible assumption) | assumption)
                obtain ⟨ad205, e205, hx205_0, hx205_1, hx205_2, hx205_3, hx205_4, hx205_5, hx205_6, hx205_7, hx205_8⟩ := at_T109 HR0.out x5_1 p205 q205
                cases e205
                replace p205 := eq_true p205
                replace q205 := eq_true q205
                have p206 : 0 ≤ (x5_1 : Int) := of_decide_eq_true (by first | (with_reducible assumption) | assumption)
                have q206 : x5_1 < (l1.length : Int) := of_decide_eq_true (by first | (with_reducible assumption) | assumption)
                obtain ⟨ad206, e206, hx206_0, hx206_1, hx206_2, hx206_3, hx206_4, hx206_5, hx206_6, hx206_7, hx206_8⟩ := at_T109 HR1.out x5_1 p206 q206
                cases e206
                replace p206 := eq_true p206
                replace q206 := eq_true q206
                go_wp2
                repeat (go_quiet (fail); try go_wp2)
                go_ret
                exact ⟨by first | rfl | (simp; done) | (simp [*]; done), by repeat (first | exact Drawn0.refl _ | apply Drawn0.step)⟩
              · rw [if_neg c7] at H
                have c7b0 : (!((((rd_T109 l0 x5_1).f0).toList) == (((rd_T109 l1 x5_1).f0).toList)) || (!((((rd_T109 l0 x5_1).f1).toList) == (((rd_T109 l1 x5_1).f1).toList)) || (!((((rd_T109 l0 x5_1).f2).toList) == (((rd_T109 l1 x5_1).f2).toList)) || (!(((rd_T109 l0 x5_1).f3) == ((rd_T109 l1 x5_1).f3)) || (!((((rd_T109 l0 x5_1).f4).toList) == (((rd_T109 l1 x5_1).f4).toList)) || (!((((rd_T109 l0 x5_1).f5).toList) == (((rd_T109 l1 x5_1).f5).toList)) || (!((((rd_T109 l0 x5_1).f6).toList) == (((rd_T109 l1 x5_1).f6).toList)) || (!((((rd_T109 l0 x5_1).f7).toList) == (((rd_T109 l1 x5_1).f7).toList)) || (!(((rd_T109 l0 x5_1).f8) == ((rd_T109 l1 x5_1).f8))))))))))) = false := by simpa using c7
                clear c7
                have H' := Aside0.mk H
                clear H
                have p205 : 0 ≤ (x5_1 : Int) := of_decide_eq_true (by first | (with_reducible assumption) | assumption)
                have q205 : x5_1 < (l0.length : Int) := of_decide_eq_true (by first | (with_reducible assumption) | assumption)
                obtain ⟨ad205, e205, hx205_0, hx205_1, hx205_2, hx205_3, hx205_4, hx205_5, hx205_6, hx205_7, hx205_8⟩ := at_T109 HR0.out x5_1 p205 q205
                cases e205
                replace p205 := eq_true p205
                replace q205 := eq_true q205
                have p206 : 0 ≤ (x5_1 : Int) := of_decide_eq_true (by first | (with_reducible assumption) | assumption)
                have q206 : x5_1 < (l1.length : Int) := of_decide_eq_true (by first | (with_reducible assumption) | assumption)
                obtain ⟨ad206, e206, hx206_0, hx206_1, hx206_2, hx206_3, hx206_4, hx206_5, hx206_6, hx206_7, hx206_8⟩ := at_T109 HR1.out x5_1 p206 q206
                cases e206
                replace p206 := eq_true p206
                replace q206 := eq_true q206
                go_wp2
                repeat (go_quiet (fail); try go_wp2)
                go_roundg k1
                case measure => have := HK1.out; omega
                case rel => exact ⟨(wrap64 (x5_1 + 1)), (by first | rfl | (simp; done) | (simp [*]; done)), H', ⟨by have := HK1.out; omega⟩, by repeat (first | exact Drawn0.refl _ | apply Drawn0.step)⟩
            · rw [if_neg c6] at H
              exact absurd H (by simp)
          · rw [if_neg c5] at H
            exact absurd H (by simp)
        · rw [if_neg c4] at H
          have c4b0 : decide (x5_1 < (l0.length : Int)) = false := decide_eq_false c4
          clear c4
          obtain rfl := Option.some.inj H
          go_wp2
          repeat (go_quiet (fail); try go_wp2)
          go_ret
          exact ⟨by first | rfl | (simp; done) | (simp [*]; done), by repeat (first | exact Drawn0.refl _ | apply Drawn0.step)⟩
  · rw [if_neg c3] at H
    have c3b0 : ((l0.length : Int) == (l1.length : Int)) = false := beq_eq_false_iff_ne.mpr c3
    have c3b1 : ((l0.length : Int) != (l1.length : Int)) = true := bne_iff_ne.mpr c3
    have c3b2 : (l0.length == l1.length) = false := by first | simpa using c3 | (simp at c3 ⊢; omega)
    obtain rfl := Option.some.inj H
    go_enter Try.func25, Try.ntmps25
    go_wp2
    repeat (go_quiet (fail); try go_wp2)
    go_ret
    exact ⟨by first | rfl | (simp; done) | (simp [*]; done), by repeat (first | exact Drawn0.refl _ | apply Drawn0.step)⟩
end Go.Proofs.Ytfiamddinkokbaa.F
end

section
set_option linter.unusedVariables false
set_option linter.unusedSimpArgs false
namespace Go.Proofs.Ytfiamddinkokbaa.F
open Go.RowKit Go.Proofs.YtfiamddinkokbaaW.PrintWords Go.Proofs.YtfiamddinkokbaaW.PrintLast Go.Proofs.YtfiamddinkokbaaW.PrintMore
attribute [local go_sem] max2_int min2_int max_two min_two max_three min_three max_four min_four
set_option linter.unusedVariables false
set_option linter.unusedSimpArgs false
def tripartitelaw07_one.f (a0_0 : ByteArray) (a0_1 : ByteArray) (a0_2 : ByteArray) (a0_3 : Bool) (a0_4 : ByteArray) (a0_5 : ByteArray) (a0_6 : ByteArray) (a0_7 : ByteArray) (a0_8 : Bool) : Option (ByteArray × ByteArray × ByteArray × Bool × ByteArray × ByteArray × ByteArray × ByteArray × Bool) := some (a0_0, a0_1, a0_2, a0_3, a0_4, a0_5, a0_6, a0_7, a0_8)
set_option maxHeartbeats 8000000 in
set_option maxRecDepth 100000 in
theorem tripartitelaw07_one.calls (a0_0 : ByteArray) (a0_1 : ByteArray) (a0_2 : ByteArray) (a0_3 : Bool) (a0_4 : ByteArray) (a0_5 : ByteArray) (a0_6 : ByteArray) (a0_7 : ByteArray) (a0_8 : Bool) (r1 : ByteArray) (r2 : ByteArray) (r3 : ByteArray) (r4 : Bool) (r5 : ByteArray) (r6 : ByteArray) (r7 : ByteArray) (r8 : ByteArray) (r9 : Bool) (w : World) (h : tripartitelaw07_one.f a0_0 a0_1 a0_2 a0_3 a0_4 a0_5 a0_6 a0_7 a0_8 = some (r1, r2, r3, r4, r5, r6, r7, r8, r9)) :
    Calls Try.prog 76 #[.agg #[.string a0_0, .string a0_1, .string a0_2, .bool a0_3, .string a0_4, .string a0_5, .string a0_6, .string a0_7, .bool a0_8]] w fun e w' => e = .returned (.agg #[.string r1, .string r2, .string r3, .bool r4, .string r5, .string r6, .string r7, .string r8, .bool r9]) ∧ Below w.heap.size w w' := by
  have hu106 := Try.underlying106
  have hu109 := Try.underlying109
  have HB := Aside0.mk (Below.refl w.heap.size w)
  have H : (some (a0_0, a0_1, a0_2, a0_3, a0_4, a0_5, a0_6, a0_7, a0_8)) = some (r1, r2, r3, r4, r5, r6, r7, r8, r9) := h
  clear h
  simp only [Option.some.injEq, Prod.mk.injEq] at H
  obtain ⟨rfl, rfl, rfl, rfl, rfl, rfl, rfl, rfl, rfl⟩ := H
  go_enter Try.func76, Try.ntmps76
  go_wp2_with (first | ((with_reducible refine gate_dst (N := 1) rfl ?_); refine box_event ?hg (N := 1) ?hd (cs := #[.string a0_0, .string a0_1, .string a0_2, .bool a0_3, .string a0_4, .string a0_5, .string a0_6, .string a0_7, .bool a0_8]) (t := 106) ?hr ?_; (case hd => rfl); (case hg => rfl); (case hr => first | (go_simp; done) | (go_simp; rfl)); intro gb207 hg w2 hbox hb; have n0_ := Aside0.mk (below_step (by repeat (first | (with_reducible first | exact HB.out | apply below_alloc | apply pw_below_drewN | apply below_drew1) | exact HB.out)) hb); have n1_ := Aside0.mk (hbox); have n2_ := Aside0.mk ((by rw [hg]; exact (below_size (by repeat (first | (with_reducible first | exact HB.out | apply below_alloc | apply pw_below_drewN | apply below_drew1) | exact HB.out))) : w.heap.size ≤ gb207)); have n3_ := Aside0.mk ((by rw [hg]; exact (below_size (by repeat (first | (with_reducible first | exact HB.out | apply below_alloc | apply pw_below_drewN | apply below_drew1) | exact HB.out))) : w.heap.size ≤ gb207)); clear HB; have HB := n0_; have BK207 := n1_; have GW207 := n2_; have GE207 := n3_; clear n0_ n1_ n2_ n3_; clear hb hbox hg) | ((with_reducible refine gate_dst (N := 2) rfl ?_); refine box_event ?hg (N := 2) ?hd (cs := #[.string (⟨#[]⟩ : ByteArray), .string (⟨#[]⟩ : ByteArray), .string (⟨#[]⟩ : ByteArray), .bool false, .string (⟨#[]⟩ : ByteArray), .string (⟨#[]⟩ : ByteArray), .string (⟨#[]⟩ : ByteArray), .string (⟨#[]⟩ : ByteArray), .bool false]) (t := 109) ?hr ?_; (case hd => rfl); (case hg => rfl); (case hr => first | (go_simp; done) | (go_simp; rfl)); intro gb208 hg w3 hbox hb; have n0_ := Aside0.mk (blk_below (g := gb207) (o := .cells #[.string a0_0, .string a0_1, .string a0_2, .bool a0_3, .string a0_4, .string a0_5, .string a0_6, .string a0_7, .bool a0_8] 106 (0, 0)) (by (with_reducible repeat (first | refine blk_drewN ?_ _ | refine blk_drew ?_ | refine blk_alloc ?_ _)); exact BK207.out) hb); have n1_ := Aside0.mk (below_step (by repeat (first | (with_reducible first | exact HB.out | apply below_alloc | apply pw_below_drewN | apply below_drew1 | refine below_set ?_ GE207.out) | exact HB.out)) hb); have n2_ := Aside0.mk (hbox); have n3_ := Aside0.mk ((by rw [hg]; exact (below_size (by repeat (first | (with_reducible first | exact HB.out | apply below_alloc | apply pw_below_drewN | apply below_drew1 | refine below_set ?_ GE207.out) | exact HB.out))) : w.heap.size ≤ gb208)); have n4_ := Aside0.mk ((by rw [hg]; exact (below_size (by repeat (first | (with_reducible first | exact HB.out | apply below_alloc | apply pw_below_drewN | apply below_drew1 | refine below_set ?_ GE207.out) | exact HB.out))) : w.heap.size ≤ gb208)); have n5_ := Aside0.mk ((by rw [hg]; exact Nat.ne_of_lt (blk_lt (g := gb207) (o := .cells #[.string a0_0, .string a0_1, .string a0_2, .bool a0_3, .string a0_4, .string a0_5, .string a0_6, .string a0_7, .bool a0_8] 106 (0, 0)) (by (with_reducible repeat (first | refine blk_drewN ?_ _ | refine blk_drew ?_ | refine blk_alloc ?_ _)); exact BK207.out)) : gb207 ≠ gb208)); have n6_ := Aside0.mk ((by rw [hg]; exact Nat.ne_of_gt (blk_lt (g := gb207) (o := .cells #[.string a0_0, .string a0_1, .string a0_2, .bool a0_3, .string a0_4, .string a0_5, .string a0_6, .string a0_7, .bool a0_8] 106 (0, 0)) (by (with_reducible repeat (first | refine blk_drewN ?_ _ | refine blk_drew ?_ | refine blk_alloc ?_ _)); exact BK207.out)) : gb208 ≠ gb207)); clear BK207; clear HB; have BK207 := n0_; have HB := n1_; have BK208 := n2_; have GW208 := n3_; have GE208 := n4_; have NB207_208 := n5_; have NB208_207 := n6_; clear n0_ n1_ n2_ n3_ n4_ n5_ n6_; clear hb hbox hg; have hnb4 := NB207_208.out; have hnc4 := NB208_207.out; have hcz5_0 : w3.cell? ⟨gb207, 0, none⟩ = some (.string a0_0) := (blk_cell BK207.out 0).trans rfl; have hcz5_1 : w3.cell? ⟨gb207, 1, none⟩ = some (.string a0_1) := (blk_cell BK207.out 1).trans rfl; have hcz5_2 : w3.cell? ⟨gb207, 2, none⟩ = some (.string a0_2) := (blk_cell BK207.out 2).trans rfl; have hcz5_3 : w3.cell? ⟨gb207, 3, none⟩ = some (.bool a0_3) := (blk_cell BK207.out 3).trans rfl; have hcz5_4 : w3.cell? ⟨gb207, 4, none⟩ = some (.string a0_4) := (blk_cell BK207.out 4).trans rfl; have hcz5_5 : w3.cell? ⟨gb207, 5, none⟩ = some (.string a0_5) := (blk_cell BK207.out 5).trans rfl; have hcz5_6 : w3.cell? ⟨gb207, 6, none⟩ = some (.string a0_6) := (blk_cell BK207.out 6).trans rfl; have hcz5_7 : w3.cell? ⟨gb207, 7, none⟩ = some (.string a0_7) := (blk_cell BK207.out 7).trans rfl; have hcz5_8 : w3.cell? ⟨gb207, 8, none⟩ = some (.bool a0_8) := (blk_cell BK207.out 8).trans rfl; have hfz5_0 := blk_frozen BK207.out 0; have hfz5_1 := blk_frozen BK207.out 1; have hfz5_2 := blk_frozen BK207.out 2; have hfz5_3 := blk_frozen BK207.out 3; have hfz5_4 := blk_frozen BK207.out 4; have hfz5_5 := blk_frozen BK207.out 5; have hfz5_6 := blk_frozen BK207.out 6; have hfz5_7 := blk_frozen BK207.out 7; have hfz5_8 := blk_frozen BK207.out 8; have hcz6_0 : w3.cell? ⟨gb208, 0, none⟩ = some (.string (⟨#[]⟩ : ByteArray)) := (blk_cell BK208.out 0).trans rfl; have hcz6_1 : w3.cell? ⟨gb208, 1, none⟩ = some (.string (⟨#[]⟩ : ByteArray)) := (blk_cell BK208.out 1).trans rfl; have hcz6_2 : w3.cell? ⟨gb208, 2, none⟩ = some (.string (⟨#[]⟩ : ByteArray)) := (blk_cell BK208.out 2).trans rfl; have hcz6_3 : w3.cell? ⟨gb208, 3, none⟩ = some (.bool false) := (blk_cell BK208.out 3).trans rfl; have hcz6_4 : w3.cell? ⟨gb208, 4, none⟩ = some (.string (⟨#[]⟩ : ByteArray)) := (blk_cell BK208.out 4).trans rfl; have hcz6_5 : w3.cell? ⟨gb208, 5, none⟩ = some (.string (⟨#[]⟩ : ByteArray)) := (blk_cell BK208.out 5).trans rfl; have hcz6_6 : w3.cell? ⟨gb208, 6, none⟩ = some (.string (⟨#[]⟩ : ByteArray)) := (blk_cell BK208.out 6).trans rfl; have hcz6_7 : w3.cell? ⟨gb208, 7, none⟩ = some (.string (⟨#[]⟩ : ByteArray)) := (blk_cell BK208.out 7).trans rfl; have hcz6_8 : w3.cell? ⟨gb208, 8, none⟩ = some (.bool false) := (blk_cell BK208.out 8).trans rfl; have hfz6_0 := blk_frozen BK208.out 0; have hfz6_1 := blk_frozen BK208.out 1; have hfz6_2 := blk_frozen BK208.out 2; have hfz6_3 := blk_frozen BK208.out 3; have hfz6_4 := blk_frozen BK208.out 4; have hfz6_5 := blk_frozen BK208.out 5; have hfz6_6 := blk_frozen BK208.out 6; have hfz6_7 := blk_frozen BK208.out 7; have hfz6_8 := blk_frozen BK208.out 8))
  refine bodyPost_ret (results_cell_row rfl _ _ gb208 109 #[.string a0_0, .string a0_1, .string a0_2, .bool a0_3, .string a0_4, .string a0_5, .string a0_6, .string a0_7, .bool a0_8] (0, 0) _ rfl (by (with_reducible repeat (first | refine blk_drewN ?_ _ | refine blk_drew ?_ | refine blk_alloc ?_ _)); refine blk_put (cs := #[.string a0_0, .string a0_1, .string a0_2, .bool a0_3, .string a0_4, .string a0_5, .string a0_6, .string a0_7, .bool false]) ?_ 8 _ rfl; (with_reducible repeat (first | refine blk_drewN ?_ _ | refine blk_drew ?_ | refine blk_alloc ?_ _)); refine blk_put (cs := #[.string a0_0, .string a0_1, .string a0_2, .bool a0_3, .string a0_4, .string a0_5, .string a0_6, .string (⟨#[]⟩ : ByteArray), .bool false]) ?_ 7 _ rfl; (with_reducible repeat (first | refine blk_drewN ?_ _ | refine blk_drew ?_ | refine blk_alloc ?_ _)); refine blk_put (cs := #[.string a0_0, .string a0_1, .string a0_2, .bool a0_3, .string a0_4, .string a0_5, .string (⟨#[]⟩ : ByteArray), .string (⟨#[]⟩ : ByteArray), .bool false]) ?_ 6 _ rfl; (with_reducible repeat (first | refine blk_drewN ?_ _ | refine blk_drew ?_ | refine blk_alloc ?_ _)); refine blk_put (cs := #[.string a0_0, .string a0_1, .string a0_2, .bool a0_3, .string a0_4, .string (⟨#[]⟩ : ByteArray), .string (⟨#[]⟩ : ByteArray), .string (⟨#[]⟩ : ByteArray), .bool false]) ?_ 5 _ rfl; (with_reducible repeat (first | refine blk_drewN ?_ _ | refine blk_drew ?_ | refine blk_alloc ?_ _)); refine blk_put (cs := #[.string a0_0, .string a0_1, .string a0_2, .bool a0_3, .string (⟨#[]⟩ : ByteArray), .string (⟨#[]⟩ : ByteArray), .string (⟨#[]⟩ : ByteArray), .string (⟨#[]⟩ : ByteArray), .bool false]) ?_ 4 _ rfl; (with_reducible repeat (first | refine blk_drewN ?_ _ | refine blk_drew ?_ | refine blk_alloc ?_ _)); refine blk_put (cs := #[.string a0_0, .string a0_1, .string a0_2, .bool false, .string (⟨#[]⟩ : ByteArray), .string (⟨#[]⟩ : ByteArray), .string (⟨#[]⟩ : ByteArray), .string (⟨#[]⟩ : ByteArray), .bool false]) ?_ 3 _ rfl; (with_reducible repeat (first | refine blk_drewN ?_ _ | refine blk_drew ?_ | refine blk_alloc ?_ _)); refine blk_put (cs := #[.string a0_0, .string a0_1, .string (⟨#[]⟩ : ByteArray), .bool false, .string (⟨#[]⟩ : ByteArray), .string (⟨#[]⟩ : ByteArray), .string (⟨#[]⟩ : ByteArray), .string (⟨#[]⟩ : ByteArray), .bool false]) ?_ 2 _ rfl; (with_reducible repeat (first | refine blk_drewN ?_ _ | refine blk_drew ?_ | refine blk_alloc ?_ _)); refine blk_put (cs := #[.string a0_0, .string (⟨#[]⟩ : ByteArray), .string (⟨#[]⟩ : ByteArray), .bool false, .string (⟨#[]⟩ : ByteArray), .string (⟨#[]⟩ : ByteArray), .string (⟨#[]⟩ : ByteArray), .string (⟨#[]⟩ : ByteArray), .bool false]) ?_ 1 _ rfl; (with_reducible repeat (first | refine blk_drewN ?_ _ | refine blk_drew ?_ | refine blk_alloc ?_ _)); refine blk_put (cs := #[.string (⟨#[]⟩ : ByteArray), .string (⟨#[]⟩ : ByteArray), .string (⟨#[]⟩ : ByteArray), .bool false, .string (⟨#[]⟩ : ByteArray), .string (⟨#[]⟩ : ByteArray), .string (⟨#[]⟩ : ByteArray), .string (⟨#[]⟩ : ByteArray), .bool false]) ?_ 0 _ rfl; (with_reducible repeat (first | refine blk_drewN ?_ _ | refine blk_drew ?_ | refine blk_alloc ?_ _)); exact BK208.out) Try.underlying109 rfl (by kernel_rfl)) rfl ?_
  exact ⟨by first | rfl | (simp [errW_none, errW_some] <;> rfl) | (simp [*, errW_none, errW_some] <;> rfl), by repeat (first | (with_reducible first | exact HB.out | apply below_alloc | apply pw_below_drewN | apply below_drew1 | refine below_set ?_ GE207.out | refine below_set ?_ GE208.out) | exact HB.out)⟩
end Go.Proofs.Ytfiamddinkokbaa.F
end

section
set_option linter.unusedVariables false
set_option linter.unusedSimpArgs false
namespace Go.Proofs.Ytfiamddinkokbaa.F
open Go.RowKit Go.Proofs.YtfiamddinkokbaaW.PrintWords Go.Proofs.YtfiamddinkokbaaW.PrintLast Go.Proofs.YtfiamddinkokbaaW.PrintMore
attribute [local go_sem] max2_int min2_int max_two min_two max_three min_three max_four min_four
set_option linter.unusedVariables false
set_option linter.unusedSimpArgs false
def tripartitelaw07_From.l0 : Nat → List (S106) → List (S109) → Int → Option ((List (S109)))
  | 0, _, _, _ => none
  | k + 1, x0, x3, x4 => if x4 < (x0.length : Int) then (if 0 ≤ x4 then ((tripartitelaw07_one.f ((rd_T106 x0 x4).f0.f0) ((rd_T106 x0 x4).f0.f1) ((rd_T106 x0 x4).f0.f2) ((rd_T106 x0 x4).f1) ((rd_T106 x0 x4).f2) ((rd_T106 x0 x4).f3) ((rd_T106 x0 x4).f4) ((rd_T106 x0 x4).f5) ((rd_T106 x0 x4).f6)).bind fun bt210 => (if x3.length < 1099511627776 then (tripartitelaw07_From.l0 k x0 (x3 ++ [(⟨bt210.1, bt210.2.1, bt210.2.2.1, bt210.2.2.2.1, bt210.2.2.2.2.1, bt210.2.2.2.2.2.1, bt210.2.2.2.2.2.2.1, bt210.2.2.2.2.2.2.2.1, bt210.2.2.2.2.2.2.2.2⟩ : S109)]) (wrap64 (x4 + 1))) else (none))) else (none)) else (some x3)
def tripartitelaw07_From.f (k : Nat) (l0 : List (S106)) : Option ((List (S109))) := tripartitelaw07_From.l0 k l0 ([] : List (S109)) 0
theorem tripartitelaw07_From.mono_l : ∀ k, (∀ y0 y1 y2, LeO (tripartitelaw07_From.l0 k y0 y1 y2) (tripartitelaw07_From.l0 (k + 1) y0 y1 y2))
  | 0 => fun _ _ _ r h => by simp [tripartitelaw07_From.l0] at h
  | k + 1 => by
    have ih0 := tripartitelaw07_From.mono_l k
    · intro y0 y1 y2
      unfold tripartitelaw07_From.l0
      repeat' first
      | (with_reducible exact ih0 _ _ _)
      | (with_reducible exact LeO.refl _)
      | (with_reducible exact LeO.none _)
      | (with_reducible refine LeO.ite ?_ ?_)
      | (with_reducible refine LeO.bind ?_ (fun _ => ?_))
      | exact ih0 _ _ _
      | exact LeO.none _
      | refine LeO.ite ?_ ?_
      | refine LeO.bind ?_ (fun _ => ?_)
theorem tripartitelaw07_From.mono : ∀ a0 k, LeO (tripartitelaw07_From.f k a0) (tripartitelaw07_From.f (k + 1) a0) := by
  intro a0 k
  have ih0 := tripartitelaw07_From.mono_l k
  unfold tripartitelaw07_From.f
  repeat' first
      | (with_reducible exact ih0 _ _ _)
      | (with_reducible exact LeO.refl _)
      | (with_reducible exact LeO.none _)
      | (with_reducible refine LeO.ite ?_ ?_)
      | (with_reducible refine LeO.bind ?_ (fun _ => ?_))
      | exact ih0 _ _ _
      | exact LeO.none _
      | refine LeO.ite ?_ ?_
      | refine LeO.bind ?_ (fun _ => ?_)
set_option maxHeartbeats 8000000 in
set_option maxRecDepth 100000 in
theorem tripartitelaw07_From.calls (k : Nat) (A0 : Option Addr) (c0 : Nat) (l0 : List (S106)) (r : List (S109)) (w : World) (hr0 : Kd.C k106 w A0 l0.length l0) (hc0 : l0.length ≤ c0) (h : tripartitelaw07_From.f k l0 = some r) :
    Calls Try.prog 26 #[.slice A0 l0.length c0] w fun e w' => ∃ v0_ : Value, e = .returned (v0_) ∧ Kd.R k109 109 w' w.heap.size (fun _ => True) v0_ r ∧ Below w.heap.size w w' := by
  have hu106 := Try.underlying106
  have HR0 := Aside0.mk hr0
  have HC0 := Aside0.mk hc0
  clear hr0 hc0
  have HB := Aside0.mk (Below.refl w.heap.size w)
  have H : (tripartitelaw07_From.l0 k l0 ([] : List (S109)) 0) = some r := h
  clear h
  have H' := Aside0.mk H
  clear H
  go_enter Try.func26, Try.ntmps26
  go_wp2
  go_loopg [3, 4] k (fun kq v3 v4 w' => ∃ (x3_1 : List (S109)) (x4_1 : Int), v4 = .int .i64 x4_1 ∧ Aside0 (tripartitelaw07_From.l0 kq l0 x3_1 x4_1 = some r) ∧ Aside0 (kq ≤ k) ∧ Aside0 (Kd.R k109 109 w' w.heap.size (fun _ => True) v3 x3_1) ∧ Aside0 (Below w.heap.size w w'))
  case atStart => exact ⟨(([] : List (S109))), (0), (by first | rfl | (simp; done) | (simp [*]; done)), H', ⟨Nat.le_refl _⟩, ⟨by first | exact Kd.R_nil _ _ _ _ _ | exact Kd.N_nil _ _ _ _ _ | exact Kd.V_nil _ _ _ _ _ | exact Kd.Q_nil _ _ _ _ _ | exact Kd.S_nil _ _ _ _ _⟩, ⟨by repeat (first | (with_reducible first | exact HB.out | apply below_alloc | apply pw_below_drewN | apply below_drew1) | exact HB.out)⟩⟩
  case round =>
    clear H'
    obtain ⟨x3_1, x4_1, rfl, HA, HK1, HO_3, HB⟩ := hrel
    cases gk with
    | zero => exact absurd HA.out (by simp [tripartitelaw07_From.l0])
    | succ k1 =>
      have H := HA.out
      clear HA
      simp only [tripartitelaw07_From.l0] at H
      by_cases c2 : x4_1 < (l0.length : Int)
      · rw [if_pos c2] at H
        have c2b0 : decide (x4_1 < (l0.length : Int)) = true := decide_eq_true c2
        clear c2
        by_cases c3 : 0 ≤ x4_1
        · rw [if_pos c3] at H
          have c3b0 : decide (0 ≤ x4_1) = true := decide_eq_true c3
          clear c3
          replace H := Option.bind_eq_some_iff.mp H
          obtain ⟨⟨t210, t211, t212, t213, t214, t215, t216, t217, t218⟩, A40, H⟩ := H
          replace H : (if x3_1.length < 1099511627776 then (tripartitelaw07_From.l0 k1 l0 (x3_1 ++ [(⟨t210, t211, t212, t213, t214, t215, t216, t217, t218⟩ : S109)]) (wrap64 (x4_1 + 1))) else (none)) = some r := H
          have A4 := Aside0.mk A40
          clear A40
          by_cases c5 : x3_1.length < 1099511627776
          · rw [if_pos c5] at H
            have LMc5 := Aside0.mk c5
            clear c5
            obtain ⟨y219, hy219⟩ : ∃ y_ : List (S109), y_ = (x3_1 ++ [(⟨t210, t211, t212, t213, t214, t215, t216, t217, t218⟩ : S109)]) := ⟨_, rfl⟩
            replace H : (tripartitelaw07_From.l0 k1 l0 y219 (wrap64 (x4_1 + 1))) = some r := by first | (rw [hy219]; with_reducible exact H) | (have H2_ := (Option.bind_some _ _).symm.trans H; rw [hy219]; with_reducible exact H2_) | (have H2_ := (Option.bind_some _ _).symm.trans H; with_reducible exact H2_) | with_reducible exact H | (rw [hy219]; exact H) | exact H
            have Ny219 := Aside0.mk hy219
            clear hy219
            have H' := Aside0.mk H
            clear H
            have p209 : 0 ≤ (x4_1 : Int) := of_decide_eq_true (by first | (with_reducible assumption) | assumption)
            have q209 : x4_1 < (l0.length : Int) := of_decide_eq_true (by first | (with_reducible assumption) | assumption)
            obtain ⟨ad209, e209, hx209_0, hx209_1, hx209_2, hx209_3, hx209_4, hx209_5, hx209_6, hx209_7, hx209_8⟩ := at_T106 HR0.out x4_1 p209 q209
            cases e209
            replace hx209_0 := (HB.out.cell (World.block_lt_of_cell? w _ hx209_0)).trans hx209_0
            replace hx209_1 := (HB.out.cell (World.block_lt_of_cell? w _ hx209_1)).trans hx209_1
            replace hx209_2 := (HB.out.cell (World.block_lt_of_cell? w _ hx209_2)).trans hx209_2
            replace hx209_3 := (HB.out.cell (World.block_lt_of_cell? w _ hx209_3)).trans hx209_3
            replace hx209_4 := (HB.out.cell (World.block_lt_of_cell? w _ hx209_4)).trans hx209_4
            replace hx209_5 := (HB.out.cell (World.block_lt_of_cell? w _ hx209_5)).trans hx209_5
            replace hx209_6 := (HB.out.cell (World.block_lt_of_cell? w _ hx209_6)).trans hx209_6
            replace hx209_7 := (HB.out.cell (World.block_lt_of_cell? w _ hx209_7)).trans hx209_7
            replace hx209_8 := (HB.out.cell (World.block_lt_of_cell? w _ hx209_8)).trans hx209_8
            replace p209 := eq_true p209
            replace q209 := eq_true q209
            go_wp2_with (first | ((with_reducible refine gate_callee (f := 76) rfl ?_); refine goesL_ (some 16) rfl rfl Try.func76 (by kernel_rfl) rfl #[.agg #[.string ((rd_T106 l0 x4_1).f0.f0), .string ((rd_T106 l0 x4_1).f0.f1), .string ((rd_T106 l0 x4_1).f0.f2), .bool ((rd_T106 l0 x4_1).f1), .string ((rd_T106 l0 x4_1).f2), .string ((rd_T106 l0 x4_1).f3), .string ((rd_T106 l0 x4_1).f4), .string ((rd_T106 l0 x4_1).f5), .bool ((rd_T106 l0 x4_1).f6)]] rfl (by (try simp only [List.map_toArray, List.map_cons, List.map_nil]); first | done | rfl | (simp only [List.length_drop, List.length_take]; rfl)) ?_; (with_reducible refine (tripartitelaw07_one.calls ((rd_T106 l0 x4_1).f0.f0) ((rd_T106 l0 x4_1).f0.f1) ((rd_T106 l0 x4_1).f0.f2) ((rd_T106 l0 x4_1).f1) ((rd_T106 l0 x4_1).f2) ((rd_T106 l0 x4_1).f3) ((rd_T106 l0 x4_1).f4) ((rd_T106 l0 x4_1).f5) ((rd_T106 l0 x4_1).f6) t210 t211 t212 t213 t214 t215 t216 t217 t218 _ A4.out).mono ?_); rintro e w6 ⟨rfl, hb⟩; refine ⟨_, rfl, ?_⟩; have n0_ := Aside0.mk (Kd.R_below (by (with_reducible repeat (first | apply Kd.R_alloc | apply Kd.R_drewN | apply Kd.R_drew)); exact HO_3.out) hb); have n1_ := Aside0.mk (below_step (by repeat (first | (with_reducible first | exact HB.out | apply below_alloc | apply pw_below_drewN | apply below_drew1) | exact HB.out)) hb); clear HO_3; clear HB; have HO_3 := n0_; have HB := n1_; clear n0_ n1_; (try clear hb); (try clear hb2); (try clear hk); (try clear hi)) | ((with_reducible refine gate_builtin (b := .append) (xs := #[.tmp 11, .tmp 17]) rfl ?_); at_builtin; refine Kd.R_append k109 (w0 := w) w.heap.size rfl (.tmp 11) (.tmp 17) 26 109 (.agg #[(.string ⟨#[]⟩), (.string ⟨#[]⟩), (.string ⟨#[]⟩), (.bool false), (.string ⟨#[]⟩), (.string ⟨#[]⟩), (.string ⟨#[]⟩), (.string ⟨#[]⟩), (.bool false)]) 128 rfl Try.underlying26 info109 rfl (by decide) (by omega) u3 x3_1 (⟨t210, t211, t212, t213, t214, t215, t216, t217, t218⟩ : S109) [.string t210, .string t211, .string t212, .bool t213, .string t214, .string t215, .string t216, .string t217, .bool t218] (fun _ => True) (fun _ => False) rfl rfl ?aP (fun _ hk => hk.elim) ?aF ?aO ?aB ?aS ?aL ?_; (case aP => exact k109_mkM _ _ _ (⟨t210, t211, t212, t213, t214, t215, t216, t217, t218⟩ : S109)); (case aB => exact (by repeat (first | (with_reducible first | exact HB.out | apply below_alloc | apply pw_below_drewN | apply below_drew1) | exact HB.out))); (case aF => exact (fun _ _ => trivial)); (case aO => exact (by (with_reducible repeat (first | apply Kd.R_alloc | apply Kd.R_drewN | apply Kd.R_drew)); exact HO_3.out)); (case aS => exact (below_size (by repeat (first | (with_reducible first | exact HB.out | apply below_alloc | apply pw_below_drewN | apply below_drew1) | exact HB.out)))); (case aL => have := LMc5.out; omega); intro v220 w7 ho hb hg hat; rw [← Ny219.out] at ho; have n0_ := Aside0.mk (hb); have n1_ := Aside0.mk (ho); clear HB; clear HO_3; have HB := n0_; have HO221 := n1_; clear n0_ n1_; clear ho hb hg hat))
            go_roundg k1
            case measure => have := HK1.out; omega
            case rel => exact ⟨(y219), (wrap64 (x4_1 + 1)), (by first | rfl | (simp; done) | (simp [*]; done)), H', ⟨by have := HK1.out; omega⟩, ⟨by (with_reducible repeat (first | apply Kd.R_alloc | apply Kd.R_drewN | apply Kd.R_drew)); exact HO221.out⟩, ⟨by repeat (first | (with_reducible first | exact HB.out | apply below_alloc | apply pw_below_drewN | apply below_drew1) | exact HB.out)⟩⟩
          · rw [if_neg c5] at H
            exact absurd H (by simp)
        · rw [if_neg c3] at H
          exact absurd H (by simp)
      · rw [if_neg c2] at H
        have c2b0 : decide (x4_1 < (l0.length : Int)) = false := decide_eq_false c2
        clear c2
        obtain rfl := Option.some.inj H
        go_wp2
        go_ret
        exact ⟨_, by first | rfl | (simp [errW_none, errW_some] <;> rfl) | (simp [*, errW_none, errW_some] <;> rfl), by (with_reducible repeat (first | apply Kd.R_alloc | apply Kd.R_drewN | apply Kd.R_drew)); exact HO_3.out, by repeat (first | (with_reducible first | exact HB.out | apply below_alloc | apply pw_below_drewN | apply below_drew1) | exact HB.out)⟩
end Go.Proofs.Ytfiamddinkokbaa.F
end

section
set_option linter.unusedVariables false
set_option linter.unusedSimpArgs false
namespace Go.Proofs.Ytfiamddinkokbaa.F
open Go.RowKit Go.Proofs.YtfiamddinkokbaaW.PrintWords Go.Proofs.YtfiamddinkokbaaW.PrintLast Go.Proofs.YtfiamddinkokbaaW.PrintMore
attribute [local go_sem] max2_int min2_int max_two min_two max_three min_three max_four min_four
set_option linter.unusedVariables false
set_option linter.unusedSimpArgs false
attribute [local go_sem high] eqA109
def tripartiteref07_text.f (a0_0 : ByteArray) (a0_1 : ByteArray) (a0_2 : ByteArray) (a0_3 : Bool) (a0_4 : ByteArray) (a0_5 : ByteArray) (a0_6 : ByteArray) (a0_7 : ByteArray) (a0_8 : Bool) : Option (Bool) := some (a0_0.toList.isEmpty && (a0_1.toList.isEmpty && (a0_2.toList.isEmpty && (!a0_3 && (a0_5.toList.isEmpty && (a0_6.toList.isEmpty && (a0_7.toList.isEmpty && (!a0_8))))))))
set_option maxHeartbeats 8000000 in
set_option maxRecDepth 100000 in
theorem tripartiteref07_text.calls (a0_0 : ByteArray) (a0_1 : ByteArray) (a0_2 : ByteArray) (a0_3 : Bool) (a0_4 : ByteArray) (a0_5 : ByteArray) (a0_6 : ByteArray) (a0_7 : ByteArray) (a0_8 : Bool) (r : Bool) (w : World) (h : tripartiteref07_text.f a0_0 a0_1 a0_2 a0_3 a0_4 a0_5 a0_6 a0_7 a0_8 = some r) :
    Calls Try.prog 77 #[.agg #[.string a0_0, .string a0_1, .string a0_2, .bool a0_3, .string a0_4, .string a0_5, .string a0_6, .string a0_7, .bool a0_8]] w fun e w' => e = .returned (.bool r) ∧ Below w.heap.size w w' := by
  have hu109 := Try.underlying109
  have HB := Aside0.mk (Below.refl w.heap.size w)
  have H : (some (a0_0.toList.isEmpty && (a0_1.toList.isEmpty && (a0_2.toList.isEmpty && (!a0_3 && (a0_5.toList.isEmpty && (a0_6.toList.isEmpty && (a0_7.toList.isEmpty && (!a0_8))))))))) = some r := h
  clear h
  obtain rfl := Option.some.inj H
  go_enter Try.func77, Try.ntmps77
  go_wp2_with (first | ((with_reducible refine gate_dst (N := 1) rfl ?_); refine box_event ?hg (N := 1) ?hd (cs := #[.string a0_0, .string a0_1, .string a0_2, .bool a0_3, .string a0_4, .string a0_5, .string a0_6, .string a0_7, .bool a0_8]) (t := 109) ?hr ?_; (case hd => rfl); (case hg => rfl); (case hr => first | (go_simp; done) | (go_simp; rfl)); intro gb222 hg w2 hbox hb; have n0_ := Aside0.mk (below_step (by repeat (first | (with_reducible first | exact HB.out | apply below_alloc | apply pw_below_drewN | apply below_drew1) | exact HB.out)) hb); have n1_ := Aside0.mk (hbox); have n2_ := Aside0.mk ((by rw [hg]; exact (below_size (by repeat (first | (with_reducible first | exact HB.out | apply below_alloc | apply pw_below_drewN | apply below_drew1) | exact HB.out))) : w.heap.size ≤ gb222)); have n3_ := Aside0.mk ((by rw [hg]; exact (below_size (by repeat (first | (with_reducible first | exact HB.out | apply below_alloc | apply pw_below_drewN | apply below_drew1) | exact HB.out))) : w.heap.size ≤ gb222)); clear HB; have HB := n0_; have BK222 := n1_; have GW222 := n2_; have GE222 := n3_; clear n0_ n1_ n2_ n3_; clear hb hbox hg; have hcz3_0 : w2.cell? ⟨gb222, 0, none⟩ = some (.string a0_0) := (blk_cell BK222.out 0).trans rfl; have hcz3_1 : w2.cell? ⟨gb222, 1, none⟩ = some (.string a0_1) := (blk_cell BK222.out 1).trans rfl; have hcz3_2 : w2.cell? ⟨gb222, 2, none⟩ = some (.string a0_2) := (blk_cell BK222.out 2).trans rfl; have hcz3_3 : w2.cell? ⟨gb222, 3, none⟩ = some (.bool a0_3) := (blk_cell BK222.out 3).trans rfl; have hcz3_4 : w2.cell? ⟨gb222, 4, none⟩ = some (.string a0_4) := (blk_cell BK222.out 4).trans rfl; have hcz3_5 : w2.cell? ⟨gb222, 5, none⟩ = some (.string a0_5) := (blk_cell BK222.out 5).trans rfl; have hcz3_6 : w2.cell? ⟨gb222, 6, none⟩ = some (.string a0_6) := (blk_cell BK222.out 6).trans rfl; have hcz3_7 : w2.cell? ⟨gb222, 7, none⟩ = some (.string a0_7) := (blk_cell BK222.out 7).trans rfl; have hcz3_8 : w2.cell? ⟨gb222, 8, none⟩ = some (.bool a0_8) := (blk_cell BK222.out 8).trans rfl; have hfz3_0 := blk_frozen BK222.out 0; have hfz3_1 := blk_frozen BK222.out 1; have hfz3_2 := blk_frozen BK222.out 2; have hfz3_3 := blk_frozen BK222.out 3; have hfz3_4 := blk_frozen BK222.out 4; have hfz3_5 := blk_frozen BK222.out 5; have hfz3_6 := blk_frozen BK222.out 6; have hfz3_7 := blk_frozen BK222.out 7; have hfz3_8 := blk_frozen BK222.out 8))
  go_ret
  exact ⟨by first | rfl | (simp [errW_none, errW_some] <;> rfl) | (simp [*, errW_none, errW_some] <;> rfl), by repeat (first | (with_reducible first | exact HB.out | apply below_alloc | apply pw_below_drewN | apply below_drew1 | refine below_set ?_ GE222.out) | exact HB.out)⟩
end Go.Proofs.Ytfiamddinkokbaa.F
end

section
set_option linter.unusedVariables false
set_option linter.unusedSimpArgs false
namespace Go.Proofs.Ytfiamddinkokbaa.F
open Go.RowKit Go.Proofs.YtfiamddinkokbaaW.PrintWords Go.Proofs.YtfiamddinkokbaaW.PrintLast Go.Proofs.YtfiamddinkokbaaW.PrintMore
attribute [local go_sem] max2_int min2_int max_two min_two max_three min_three max_four min_four
set_option linter.unusedVariables false
set_option linter.unusedSimpArgs false
mutual
def tripartiteref07_Of.l0 : Nat → List (S109) → List (S109) → Int → Option ((List (S109)))
  | 0, _, _, _ => none
  | k + 1, x0, x3, x4 => if x4 < (x0.length : Int) then (if 0 ≤ x4 then ((tripartiteref07_text.f ((rd_T109 x0 x4).f0) ((rd_T109 x0 x4).f1) ((rd_T109 x0 x4).f2) ((rd_T109 x0 x4).f3) ((rd_T109 x0 x4).f4) ((rd_T109 x0 x4).f5) ((rd_T109 x0 x4).f6) ((rd_T109 x0 x4).f7) ((rd_T109 x0 x4).f8)).bind fun t224 => (if t224 = true then (tripartiteref07_Of.j1 k x0 x3 x4 (x3.length : Int) (((rd_T109 x0 x4).f4).toList == ([] : List UInt8))) else (tripartiteref07_Of.j1 k x0 x3 x4 (x3.length : Int) false))) else (none)) else (some x3)
def tripartiteref07_Of.j1 : Nat → List (S109) → List (S109) → Int → Int → Bool → Option ((List (S109)))
  | 0, _, _, _, _, _ => none
  | k + 1, x0, x3, x4, x5, x26 => if x26 = true then (tripartiteref07_Of.l0 k x0 x3 (wrap64 (x4 + 1))) else (if 0 ≤ x4 then (if x4 < (x0.length : Int) then ((tripartiteref07_text.f ((rd_T109 x0 x4).f0) ((rd_T109 x0 x4).f1) ((rd_T109 x0 x4).f2) ((rd_T109 x0 x4).f3) ((rd_T109 x0 x4).f4) ((rd_T109 x0 x4).f5) ((rd_T109 x0 x4).f6) ((rd_T109 x0 x4).f7) ((rd_T109 x0 x4).f8)).bind fun t227 => (if t227 = true then (if x5 > 0 then (if 0 ≤ (wrap64 (x5 - 1)) then (if (wrap64 (x5 - 1)) < (x3.length : Int) then ((tripartiteref07_text.f ((rd_T109 x3 (wrap64 (x5 - 1))).f0) ((rd_T109 x3 (wrap64 (x5 - 1))).f1) ((rd_T109 x3 (wrap64 (x5 - 1))).f2) ((rd_T109 x3 (wrap64 (x5 - 1))).f3) ((rd_T109 x3 (wrap64 (x5 - 1))).f4) ((rd_T109 x3 (wrap64 (x5 - 1))).f5) ((rd_T109 x3 (wrap64 (x5 - 1))).f6) ((rd_T109 x3 (wrap64 (x5 - 1))).f7) ((rd_T109 x3 (wrap64 (x5 - 1))).f8)).bind fun t229 => (if t229 = true then (if ((rd_T109 x3 (wrap64 (x5 - 1))).f4).size + ((rd_T109 x0 x4).f4).size ≤ 9223372036854775807 then (tripartiteref07_Of.l0 k x0 (x3.set ((wrap64 (x5 - 1)) : Int).toNat (⟨(rd_T109 x3 (wrap64 (x5 - 1))).f0, (rd_T109 x3 (wrap64 (x5 - 1))).f1, (rd_T109 x3 (wrap64 (x5 - 1))).f2, (rd_T109 x3 (wrap64 (x5 - 1))).f3, ((rd_T109 x3 (wrap64 (x5 - 1))).f4) ++ ((rd_T109 x0 x4).f4), (rd_T109 x3 (wrap64 (x5 - 1))).f5, (rd_T109 x3 (wrap64 (x5 - 1))).f6, (rd_T109 x3 (wrap64 (x5 - 1))).f7, (rd_T109 x3 (wrap64 (x5 - 1))).f8⟩ : S109)) (wrap64 (x4 + 1))) else (none)) else (if x3.length < 1099511627776 then (tripartiteref07_Of.l0 k x0 (x3 ++ [(⟨(rd_T109 x0 x4).f0, (rd_T109 x0 x4).f1, (rd_T109 x0 x4).f2, (rd_T109 x0 x4).f3, (rd_T109 x0 x4).f4, (rd_T109 x0 x4).f5, (rd_T109 x0 x4).f6, (rd_T109 x0 x4).f7, (rd_T109 x0 x4).f8⟩ : S109)]) (wrap64 (x4 + 1))) else (none)))) else (none)) else (none)) else (if x3.length < 1099511627776 then (tripartiteref07_Of.l0 k x0 (x3 ++ [(⟨(rd_T109 x0 x4).f0, (rd_T109 x0 x4).f1, (rd_T109 x0 x4).f2, (rd_T109 x0 x4).f3, (rd_T109 x0 x4).f4, (rd_T109 x0 x4).f5, (rd_T109 x0 x4).f6, (rd_T109 x0 x4).f7, (rd_T109 x0 x4).f8⟩ : S109)]) (wrap64 (x4 + 1))) else (none))) else (if x3.length < 1099511627776 then (tripartiteref07_Of.l0 k x0 (x3 ++ [(⟨(rd_T109 x0 x4).f0, (rd_T109 x0 x4).f1, (rd_T109 x0 x4).f2, (rd_T109 x0 x4).f3, (rd_T109 x0 x4).f4, (rd_T109 x0 x4).f5, (rd_T109 x0 x4).f6, (rd_T109 x0 x4).f7, (rd_T109 x0 x4).f8⟩ : S109)]) (wrap64 (x4 + 1))) else (none)))) else (none)) else (none))
end
def tripartiteref07_Of.f (k : Nat) (l0 : List (S109)) : Option ((List (S109))) := tripartiteref07_Of.l0 k l0 ([] : List (S109)) 0
theorem tripartiteref07_Of.mono_l : ∀ k, (∀ y0 y1 y2, LeO (tripartiteref07_Of.l0 k y0 y1 y2) (tripartiteref07_Of.l0 (k + 1) y0 y1 y2)) ∧ (∀ y0 y1 y2 y3 y4, LeO (tripartiteref07_Of.j1 k y0 y1 y2 y3 y4) (tripartiteref07_Of.j1 (k + 1) y0 y1 y2 y3 y4))
  | 0 => ⟨fun _ _ _ r h => by simp [tripartiteref07_Of.l0] at h, fun _ _ _ _ _ r h => by simp [tripartiteref07_Of.j1] at h⟩
  | k + 1 => by
    obtain ⟨ih0, ih1⟩ := tripartiteref07_Of.mono_l k
    refine ⟨?_, ?_⟩
    · intro y0 y1 y2
      unfold tripartiteref07_Of.l0
      repeat' first
      | (with_reducible exact ih0 _ _ _)
      | (with_reducible exact ih1 _ _ _ _ _)
      | (with_reducible exact LeO.refl _)
      | (with_reducible exact LeO.none _)
      | (with_reducible refine LeO.ite ?_ ?_)
      | (with_reducible refine LeO.bind ?_ (fun _ => ?_))
      | exact ih0 _ _ _
      | exact ih1 _ _ _ _ _
      | exact LeO.none _
      | refine LeO.ite ?_ ?_
      | refine LeO.bind ?_ (fun _ => ?_)
    · intro y0 y1 y2 y3 y4
      unfold tripartiteref07_Of.j1
      repeat' first
      | (with_reducible exact ih0 _ _ _)
      | (with_reducible exact ih1 _ _ _ _ _)
      | (with_reducible exact LeO.refl _)
      | (with_reducible exact LeO.none _)
      | (with_reducible refine LeO.ite ?_ ?_)
      | (with_reducible refine LeO.bind ?_ (fun _ => ?_))
      | exact ih0 _ _ _
      | exact ih1 _ _ _ _ _
      | exact LeO.none _
      | refine LeO.ite ?_ ?_
      | refine LeO.bind ?_ (fun _ => ?_)
theorem tripartiteref07_Of.mono : ∀ a0 k, LeO (tripartiteref07_Of.f k a0) (tripartiteref07_Of.f (k + 1) a0) := by
  intro a0 k
  obtain ⟨ih0, ih1⟩ := tripartiteref07_Of.mono_l k
  unfold tripartiteref07_Of.f
  repeat' first
      | (with_reducible exact ih0 _ _ _)
      | (with_reducible exact ih1 _ _ _ _ _)
      | (with_reducible exact LeO.refl _)
      | (with_reducible exact LeO.none _)
      | (with_reducible refine LeO.ite ?_ ?_)
      | (with_reducible refine LeO.bind ?_ (fun _ => ?_))
      | exact ih0 _ _ _
      | exact ih1 _ _ _ _ _
      | exact LeO.none _
      | refine LeO.ite ?_ ?_
      | refine LeO.bind ?_ (fun _ => ?_)
def tripartiteref07_Of.T8 : Bool × List (List Nat × List Nat) := (true, [([], []), ([], []), ([1], [1]), ([], []), ([], []), ([4], [4]), ([3, 5], [3, 5]), ([6], [6]), ([7], [7]), ([], []), ([], []), ([9, 10], [9, 10]), ([11], [11]), ([12], [12]), ([8, 13], [8, 13]), ([0, 2, 0, 1, 2, 3, 4, 5, 6, 7, 8, 9, 10, 11, 12, 13, 14], [0, 2]), ([15, 0, 1, 2, 3, 4, 5, 6, 7, 8, 9, 10, 11, 12, 13, 14], [15]), ([16, 14, 0, 1, 2, 3, 4, 5, 6, 7, 8, 9, 10, 11, 12, 13, 14], [14, 16])])
def tripartiteref07_Of.B8 : List Nat := [0, 0, 2, 0, 0, 16, 56, 120, 248, 0, 0, 1536, 3584, 7680, 16376, 32767, 65535, 131071]
theorem tripartiteref07_Of.tab8 : rtab .any (opsOf Try.f27 8) = tripartiteref07_Of.T8 := by kernel_rfl
theorem tripartiteref07_Of.bits8 : waitsOk tripartiteref07_Of.T8.2 tripartiteref07_Of.B8 = true := by kernel_rfl
set_option maxHeartbeats 8000000 in
set_option maxRecDepth 100000 in
theorem tripartiteref07_Of.calls (k : Nat) (A0 : Option Addr) (c0 : Nat) (l0 : List (S109)) (r : List (S109)) (w : World) (hr0 : Kd.C k109 w A0 l0.length l0) (hc0 : l0.length ≤ c0) (h : tripartiteref07_Of.f k l0 = some r) :
    Calls Try.prog 27 #[.slice A0 l0.length c0] w fun e w' => ∃ v0_ : Value, e = .returned (v0_) ∧ Kd.R k109 109 w' w.heap.size (fun _ => True) v0_ r ∧ Below w.heap.size w w' := by
  have hu109 := Try.underlying109
  have HR0 := Aside0.mk hr0
  have HC0 := Aside0.mk hc0
  clear hr0 hc0
  have HB := Aside0.mk (Below.refl w.heap.size w)
  have H : (tripartiteref07_Of.l0 k l0 ([] : List (S109)) 0) = some r := h
  clear h
  have H' := Aside0.mk H
  clear H
  go_enter Try.func27, Try.ntmps27
  go_wp2
  go_loopg [3, 4] k (fun kq v3 v4 w' => ∃ (x3_1 : List (S109)) (x4_1 : Int), v4 = .int .i64 x4_1 ∧ Aside0 (tripartiteref07_Of.l0 kq l0 x3_1 x4_1 = some r) ∧ Aside0 (kq ≤ k) ∧ Aside0 (Kd.R k109 109 w' w.heap.size (fun _ => True) v3 x3_1) ∧ Aside0 (Below w.heap.size w w'))
  case atStart => exact ⟨(([] : List (S109))), (0), (by first | rfl | (simp; done) | (simp [*]; done)), H', ⟨Nat.le_refl _⟩, ⟨by first | exact Kd.R_nil _ _ _ _ _ | exact Kd.N_nil _ _ _ _ _ | exact Kd.V_nil _ _ _ _ _ | exact Kd.Q_nil _ _ _ _ _ | exact Kd.S_nil _ _ _ _ _⟩, ⟨by repeat (first | (with_reducible first | exact HB.out | apply below_alloc | apply pw_below_drewN | apply below_drew1) | exact HB.out)⟩⟩
  case round =>
    clear H'
    obtain ⟨x3_1, x4_1, rfl, HA, HK1, HO_3, HB⟩ := hrel
    cases gk with
    | zero => exact absurd HA.out (by simp [tripartiteref07_Of.l0])
    | succ k1 =>
      have H := HA.out
      clear HA
      simp only [tripartiteref07_Of.l0] at H
      by_cases c2 : x4_1 < (l0.length : Int)
      · rw [if_pos c2] at H
        have c2b0 : decide (x4_1 < (l0.length : Int)) = true := decide_eq_true c2
        clear c2
        have HC3 := Aside0.mk H
        clear H
        obtain ⟨Ao4, co4, eo4⟩ := Kd.R_slice HO_3.out
        subst eo4
        go_upto_region 6 with (fail)
        go_cut [26] (fun v26 wc => ∃ (kq : Nat) (x26_2 : Bool), v26 = .bool x26_2 ∧ Aside0 (tripartiteref07_Of.j1 kq l0 x3_1 x4_1 (x3_1.length : Int) x26_2 = some r) ∧ Aside0 (kq ≤ k1) ∧ Aside0 (Kd.R k109 109 wc w.heap.size (fun _ => True) (.slice Ao4 x3_1.length co4) x3_1) ∧ Aside0 (Below w.heap.size w wc))
        case first =>
          have H := HC3.out
          clear HC3
          by_cases c5 : 0 ≤ x4_1
          · rw [if_pos c5] at H
            have c5b0 : decide (0 ≤ x4_1) = true := decide_eq_true c5
            clear c5
            (first | rw [c5b0] | (simp only [i64_w, i32_w]; rw [c5b0]) | skip)
            replace H := Option.bind_eq_some_iff.mp H
            obtain ⟨t224, A60, H⟩ := H
            replace H : (if t224 = true then (tripartiteref07_Of.j1 k1 l0 x3_1 x4_1 (x3_1.length : Int) (((rd_T109 l0 x4_1).f4).toList == ([] : List UInt8))) else (tripartiteref07_Of.j1 k1 l0 x3_1 x4_1 (x3_1.length : Int) false)) = some r := H
            have A6 := Aside0.mk A60
            clear A60
            by_cases c7 : t224 = true
            · subst c7
              have H1 : (tripartiteref07_Of.j1 k1 l0 x3_1 x4_1 (x3_1.length : Int) (((rd_T109 l0 x4_1).f4).toList == ([] : List UInt8))) = some r := by rw [if_pos rfl] at H; exact H
              clear H
              have H := H1
              clear H1
              have H' := Aside0.mk H
              clear H
              have p223 : 0 ≤ (x4_1 : Int) := of_decide_eq_true (by first | (with_reducible assumption) | assumption)
              have q223 : x4_1 < (l0.length : Int) := of_decide_eq_true (by first | (with_reducible assumption) | assumption)
              obtain ⟨ad223, e223, hx223_0, hx223_1, hx223_2, hx223_3, hx223_4, hx223_5, hx223_6, hx223_7, hx223_8⟩ := at_T109 HR0.out x4_1 p223 q223
              cases e223
              replace hx223_0 := (HB.out.cell (World.block_lt_of_cell? w _ hx223_0)).trans hx223_0
              replace hx223_1 := (HB.out.cell (World.block_lt_of_cell? w _ hx223_1)).trans hx223_1
              replace hx223_2 := (HB.out.cell (World.block_lt_of_cell? w _ hx223_2)).trans hx223_2
              replace hx223_3 := (HB.out.cell (World.block_lt_of_cell? w _ hx223_3)).trans hx223_3
              replace hx223_4 := (HB.out.cell (World.block_lt_of_cell? w _ hx223_4)).trans hx223_4
              replace hx223_5 := (HB.out.cell (World.block_lt_of_cell? w _ hx223_5)).trans hx223_5
              replace hx223_6 := (HB.out.cell (World.block_lt_of_cell? w _ hx223_6)).trans hx223_6
              replace hx223_7 := (HB.out.cell (World.block_lt_of_cell? w _ hx223_7)).trans hx223_7
              replace hx223_8 := (HB.out.cell (World.block_lt_of_cell? w _ hx223_8)).trans hx223_8
              replace p223 := eq_true p223
              replace q223 := eq_true q223
              go_wp2_with (first | ((with_reducible refine gate_callee (f := 77) rfl ?_); refine goesL_ (some 18) rfl rfl Try.func77 (by kernel_rfl) rfl #[.agg #[.string ((rd_T109 l0 x4_1).f0), .string ((rd_T109 l0 x4_1).f1), .string ((rd_T109 l0 x4_1).f2), .bool ((rd_T109 l0 x4_1).f3), .string ((rd_T109 l0 x4_1).f4), .string ((rd_T109 l0 x4_1).f5), .string ((rd_T109 l0 x4_1).f6), .string ((rd_T109 l0 x4_1).f7), .bool ((rd_T109 l0 x4_1).f8)]] rfl (by (try simp only [List.map_toArray, List.map_cons, List.map_nil]); first | done | rfl | (simp only [List.length_drop, List.length_take]; rfl)) ?_; (with_reducible refine (tripartiteref07_text.calls ((rd_T109 l0 x4_1).f0) ((rd_T109 l0 x4_1).f1) ((rd_T109 l0 x4_1).f2) ((rd_T109 l0 x4_1).f3) ((rd_T109 l0 x4_1).f4) ((rd_T109 l0 x4_1).f5) ((rd_T109 l0 x4_1).f6) ((rd_T109 l0 x4_1).f7) ((rd_T109 l0 x4_1).f8) true _ A6.out).mono ?_); rintro e w8 ⟨rfl, hb⟩; refine ⟨_, rfl, ?_⟩; have n0_ := Aside0.mk (Kd.R_below (by (with_reducible repeat (first | apply Kd.R_alloc | apply Kd.R_drewN | apply Kd.R_drew)); exact HO_3.out) hb); have n1_ := Aside0.mk (below_step (by repeat (first | (with_reducible first | exact HB.out | apply below_alloc | apply pw_below_drewN | apply below_drew1) | exact HB.out)) hb); clear HO_3; clear HB; have HO_3 := n0_; have HB := n1_; clear n0_ n1_; (try clear hb); (try clear hb2); (try clear hk); (try clear hi); have p225 : 0 ≤ (x4_1 : Int) := of_decide_eq_true (by first | (with_reducible assumption) | assumption); have q225 : x4_1 < (l0.length : Int) := of_decide_eq_true (by first | (with_reducible assumption) | assumption); obtain ⟨ad225, e225, hx225_0, hx225_1, hx225_2, hx225_3, hx225_4, hx225_5, hx225_6, hx225_7, hx225_8⟩ := at_T109 HR0.out x4_1 p225 q225; obtain rfl : ad223 = ad225 := (by injection e225); replace hx225_0 := (HB.out.cell (World.block_lt_of_cell? w _ hx225_0)).trans hx225_0; replace hx225_1 := (HB.out.cell (World.block_lt_of_cell? w _ hx225_1)).trans hx225_1; replace hx225_2 := (HB.out.cell (World.block_lt_of_cell? w _ hx225_2)).trans hx225_2; replace hx225_3 := (HB.out.cell (World.block_lt_of_cell? w _ hx225_3)).trans hx225_3; replace hx225_4 := (HB.out.cell (World.block_lt_of_cell? w _ hx225_4)).trans hx225_4; replace hx225_5 := (HB.out.cell (World.block_lt_of_cell? w _ hx225_5)).trans hx225_5; replace hx225_6 := (HB.out.cell (World.block_lt_of_cell? w _ hx225_6)).trans hx225_6; replace hx225_7 := (HB.out.cell (World.block_lt_of_cell? w _ hx225_7)).trans hx225_7; replace hx225_8 := (HB.out.cell (World.block_lt_of_cell? w _ hx225_8)).trans hx225_8; replace p225 := eq_true p225; replace q225 := eq_true q225))
              go_meet
              case rel => exact ⟨_, ((((rd_T109 l0 x4_1).f4).toList == ([] : List UInt8))), (by first | rfl | (simp; done) | (simp [*]; done)), H', ⟨by have := HK1.out; first | omega | exact Nat.le_refl _⟩, ⟨by (with_reducible repeat (first | apply Kd.R_alloc | apply Kd.R_drewN | apply Kd.R_drew)); exact HO_3.out⟩, ⟨by repeat (first | (with_reducible first | exact HB.out | apply below_alloc | apply pw_below_drewN | apply below_drew1) | exact HB.out)⟩⟩
            · replace c7 := Bool.eq_false_iff.mpr c7
              subst c7
              have H1 : (tripartiteref07_Of.j1 k1 l0 x3_1 x4_1 (x3_1.length : Int) false) = some r := by rw [if_neg (show ¬ (false = true) by decide)] at H; exact H
              clear H
              have H := H1
              clear H1
              have H' := Aside0.mk H
              clear H
              have p223 : 0 ≤ (x4_1 : Int) := of_decide_eq_true (by first | (with_reducible assumption) | assumption)
              have q223 : x4_1 < (l0.length : Int) := of_decide_eq_true (by first | (with_reducible assumption) | assumption)
              obtain ⟨ad223, e223, hx223_0, hx223_1, hx223_2, hx223_3, hx223_4, hx223_5, hx223_6, hx223_7, hx223_8⟩ := at_T109 HR0.out x4_1 p223 q223
              cases e223
              replace hx223_0 := (HB.out.cell (World.block_lt_of_cell? w _ hx223_0)).trans hx223_0
              replace hx223_1 := (HB.out.cell (World.block_lt_of_cell? w _ hx223_1)).trans hx223_1
              replace hx223_2 := (HB.out.cell (World.block_lt_of_cell? w _ hx223_2)).trans hx223_2
              replace hx223_3 := (HB.out.cell (World.block_lt_of_cell? w _ hx223_3)).trans hx223_3
              replace hx223_4 := (HB.out.cell (World.block_lt_of_cell? w _ hx223_4)).trans hx223_4
              replace hx223_5 := (HB.out.cell (World.block_lt_of_cell? w _ hx223_5)).trans hx223_5
              replace hx223_6 := (HB.out.cell (World.block_lt_of_cell? w _ hx223_6)).trans hx223_6
              replace hx223_7 := (HB.out.cell (World.block_lt_of_cell? w _ hx223_7)).trans hx223_7
              replace hx223_8 := (HB.out.cell (World.block_lt_of_cell? w _ hx223_8)).trans hx223_8
              replace p223 := eq_true p223
              replace q223 := eq_true q223
              go_wp2_with (first | ((with_reducible refine gate_callee (f := 77) rfl ?_); refine goesL_ (some 18) rfl rfl Try.func77 (by kernel_rfl) rfl #[.agg #[.string ((rd_T109 l0 x4_1).f0), .string ((rd_T109 l0 x4_1).f1), .string ((rd_T109 l0 x4_1).f2), .bool ((rd_T109 l0 x4_1).f3), .string ((rd_T109 l0 x4_1).f4), .string ((rd_T109 l0 x4_1).f5), .string ((rd_T109 l0 x4_1).f6), .string ((rd_T109 l0 x4_1).f7), .bool ((rd_T109 l0 x4_1).f8)]] rfl (by (try simp only [List.map_toArray, List.map_cons, List.map_nil]); first | done | rfl | (simp only [List.length_drop, List.length_take]; rfl)) ?_; (with_reducible refine (tripartiteref07_text.calls ((rd_T109 l0 x4_1).f0) ((rd_T109 l0 x4_1).f1) ((rd_T109 l0 x4_1).f2) ((rd_T109 l0 x4_1).f3) ((rd_T109 l0 x4_1).f4) ((rd_T109 l0 x4_1).f5) ((rd_T109 l0 x4_1).f6) ((rd_T109 l0 x4_1).f7) ((rd_T109 l0 x4_1).f8) false _ A6.out).mono ?_); rintro e w9 ⟨rfl, hb⟩; refine ⟨_, rfl, ?_⟩; have n0_ := Aside0.mk (Kd.R_below (by (with_reducible repeat (first | apply Kd.R_alloc | apply Kd.R_drewN | apply Kd.R_drew)); exact HO_3.out) hb); have n1_ := Aside0.mk (below_step (by repeat (first | (with_reducible first | exact HB.out | apply below_alloc | apply pw_below_drewN | apply below_drew1) | exact HB.out)) hb); clear HO_3; clear HB; have HO_3 := n0_; have HB := n1_; clear n0_ n1_; (try clear hb); (try clear hb2); (try clear hk); (try clear hi)))
              go_meet
              case rel => exact ⟨_, (false), (by first | rfl | (simp; done) | (simp [*]; done)), H', ⟨by have := HK1.out; first | omega | exact Nat.le_refl _⟩, ⟨by (with_reducible repeat (first | apply Kd.R_alloc | apply Kd.R_drewN | apply Kd.R_drew)); exact HO_3.out⟩, ⟨by repeat (first | (with_reducible first | exact HB.out | apply below_alloc | apply pw_below_drewN | apply below_drew1) | exact HB.out)⟩⟩
          · rw [if_neg c5] at H
            exact absurd H (by simp)
        case rest =>
          clear HC3
          try clear c2
          try clear c2b0
          try clear p2
          try clear q2
          try clear hx2
          try clear c5
          try clear c5b0
          try clear c7
          try clear hx223_0
          try clear hx223_1
          try clear hx223_2
          try clear hx223_3
          try clear hx223_4
          try clear hx223_5
          try clear hx223_6
          try clear hx223_7
          try clear hx223_8
          try clear hx225_0
          try clear hx225_1
          try clear hx225_2
          try clear hx225_3
          try clear hx225_4
          try clear hx225_5
          try clear hx225_6
          try clear hx225_7
          try clear hx225_8
          try clear p223
          try clear p225
          try clear q223
          try clear q225
          obtain ⟨kq, x26_2, rfl, HA, HJ2, HO_3, HB⟩ := hcut
          cases kq with
          | zero => exact absurd HA.out (by simp [tripartiteref07_Of.j1])
          | succ kj2 =>
            have H := HA.out
            clear HA
            simp only [tripartiteref07_Of.j1] at H
            by_cases c10 : x26_2 = true
            · subst c10
              have H1 : (tripartiteref07_Of.l0 kj2 l0 x3_1 (wrap64 (x4_1 + 1))) = some r := by rw [if_pos rfl] at H; exact H
              clear H
              have H := H1
              clear H1
              have H' := Aside0.mk H
              clear H
              go_wp2
              go_roundg kj2
              case measure => have := HK1.out; have := HJ2.out; omega
              case rel => exact ⟨(x3_1), (wrap64 (x4_1 + 1)), (by first | rfl | (simp; done) | (simp [*]; done)), H', ⟨by have := HK1.out; have := HJ2.out; omega⟩, ⟨by (with_reducible repeat (first | apply Kd.R_alloc | apply Kd.R_drewN | apply Kd.R_drew)); exact HO_3.out⟩, ⟨by repeat (first | (with_reducible first | exact HB.out | apply below_alloc | apply pw_below_drewN | apply below_drew1) | exact HB.out)⟩⟩
            · replace c10 := Bool.eq_false_iff.mpr c10
              subst c10
              have H1 : (if 0 ≤ x4_1 then (if x4_1 < (l0.length : Int) then ((tripartiteref07_text.f ((rd_T109 l0 x4_1).f0) ((rd_T109 l0 x4_1).f1) ((rd_T109 l0 x4_1).f2) ((rd_T109 l0 x4_1).f3) ((rd_T109 l0 x4_1).f4) ((rd_T109 l0 x4_1).f5) ((rd_T109 l0 x4_1).f6) ((rd_T109 l0 x4_1).f7) ((rd_T109 l0 x4_1).f8)).bind fun t227 => (if t227 = true then (if (x3_1.length : Int) > 0 then (if 0 ≤ (wrap64 ((x3_1.length : Int) - 1)) then (if (wrap64 ((x3_1.length : Int) - 1)) < (x3_1.length : Int) then ((tripartiteref07_text.f ((rd_T109 x3_1 (wrap64 ((x3_1.length : Int) - 1))).f0) ((rd_T109 x3_1 (wrap64 ((x3_1.length : Int) - 1))).f1) ((rd_T109 x3_1 (wrap64 ((x3_1.length : Int) - 1))).f2) ((rd_T109 x3_1 (wrap64 ((x3_1.length : Int) - 1))).f3) ((rd_T109 x3_1 (wrap64 ((x3_1.length : Int) - 1))).f4) ((rd_T109 x3_1 (wrap64 ((x3_1.length : Int) - 1))).f5) ((rd_T109 x3_1 (wrap64 ((x3_1.length : Int) - 1))).f6) ((rd_T109 x3_1 (wrap64 ((x3_1.length : Int) - 1))).f7) ((rd_T109 x3_1 (wrap64 ((x3_1.length : Int) - 1))).f8)).bind fun t229 => (if t229 = true then (if ((rd_T109 x3_1 (wrap64 ((x3_1.length : Int) - 1))).f4).size + ((rd_T109 l0 x4_1).f4).size ≤ 9223372036854775807 then (tripartiteref07_Of.l0 kj2 l0 (x3_1.set ((wrap64 ((x3_1.length : Int) - 1)) : Int).toNat (⟨(rd_T109 x3_1 (wrap64 ((x3_1.length : Int) - 1))).f0, (rd_T109 x3_1 (wrap64 ((x3_1.length : Int) - 1))).f1, (rd_T109 x3_1 (wrap64 ((x3_1.length : Int) - 1))).f2, (rd_T109 x3_1 (wrap64 ((x3_1.length : Int) - 1))).f3, ((rd_T109 x3_1 (wrap64 ((x3_1.length : Int) - 1))).f4) ++ ((rd_T109 l0 x4_1).f4), (rd_T109 x3_1 (wrap64 ((x3_1.length : Int) - 1))).f5, (rd_T109 x3_1 (wrap64 ((x3_1.length : Int) - 1))).f6, (rd_T109 x3_1 (wrap64 ((x3_1.length : Int) - 1))).f7, (rd_T109 x3_1 (wrap64 ((x3_1.length : Int) - 1))).f8⟩ : S109)) (wrap64 (x4_1 + 1))) else (none)) else (if x3_1.length < 1099511627776 then (tripartiteref07_Of.l0 kj2 l0 (x3_1 ++ [(⟨(rd_T109 l0 x4_1).f0, (rd_T109 l0 x4_1).f1, (rd_T109 l0 x4_1).f2, (rd_T109 l0 x4_1).f3, (rd_T109 l0 x4_1).f4, (rd_T109 l0 x4_1).f5, (rd_T109 l0 x4_1).f6, (rd_T109 l0 x4_1).f7, (rd_T109 l0 x4_1).f8⟩ : S109)]) (wrap64 (x4_1 + 1))) else (none)))) else (none)) else (none)) else (if x3_1.length < 1099511627776 then (tripartiteref07_Of.l0 kj2 l0 (x3_1 ++ [(⟨(rd_T109 l0 x4_1).f0, (rd_T109 l0 x4_1).f1, (rd_T109 l0 x4_1).f2, (rd_T109 l0 x4_1).f3, (rd_T109 l0 x4_1).f4, (rd_T109 l0 x4_1).f5, (rd_T109 l0 x4_1).f6, (rd_T109 l0 x4_1).f7, (rd_T109 l0 x4_1).f8⟩ : S109)]) (wrap64 (x4_1 + 1))) else (none))) else (if x3_1.length < 1099511627776 then (tripartiteref07_Of.l0 kj2 l0 (x3_1 ++ [(⟨(rd_T109 l0 x4_1).f0, (rd_T109 l0 x4_1).f1, (rd_T109 l0 x4_1).f2, (rd_T109 l0 x4_1).f3, (rd_T109 l0 x4_1).f4, (rd_T109 l0 x4_1).f5, (rd_T109 l0 x4_1).f6, (rd_T109 l0 x4_1).f7, (rd_T109 l0 x4_1).f8⟩ : S109)]) (wrap64 (x4_1 + 1))) else (none)))) else (none)) else (none)) = some r := by rw [if_neg (show ¬ (false = true) by decide)] at H; exact H
              clear H
              have H := H1
              clear H1
              by_cases c11 : 0 ≤ x4_1
              · rw [if_pos c11] at H
                have c11b0 : decide (0 ≤ x4_1) = true := decide_eq_true c11
                clear c11
                by_cases c12 : x4_1 < (l0.length : Int)
                · rw [if_pos c12] at H
                  have c12b0 : decide (x4_1 < (l0.length : Int)) = true := decide_eq_true c12
                  clear c12
                  replace H := Option.bind_eq_some_iff.mp H
                  obtain ⟨t227, A130, H⟩ := H
                  replace H : (if t227 = true then (if (x3_1.length : Int) > 0 then (if 0 ≤ (wrap64 ((x3_1.length : Int) - 1)) then (if (wrap64 ((x3_1.length : Int) - 1)) < (x3_1.length : Int) then ((tripartiteref07_text.f ((rd_T109 x3_1 (wrap64 ((x3_1.length : Int) - 1))).f0) ((rd_T109 x3_1 (wrap64 ((x3_1.length : Int) - 1))).f1) ((rd_T109 x3_1 (wrap64 ((x3_1.length : Int) - 1))).f2) ((rd_T109 x3_1 (wrap64 ((x3_1.length : Int) - 1))).f3) ((rd_T109 x3_1 (wrap64 ((x3_1.length : Int) - 1))).f4) ((rd_T109 x3_1 (wrap64 ((x3_1.length : Int) - 1))).f5) ((rd_T109 x3_1 (wrap64 ((x3_1.length : Int) - 1))).f6) ((rd_T109 x3_1 (wrap64 ((x3_1.length : Int) - 1))).f7) ((rd_T109 x3_1 (wrap64 ((x3_1.length : Int) - 1))).f8)).bind fun t229 => (if t229 = true then (if ((rd_T109 x3_1 (wrap64 ((x3_1.length : Int) - 1))).f4).size + ((rd_T109 l0 x4_1).f4).size ≤ 9223372036854775807 then (tripartiteref07_Of.l0 kj2 l0 (x3_1.set ((wrap64 ((x3_1.length : Int) - 1)) : Int).toNat (⟨(rd_T109 x3_1 (wrap64 ((x3_1.length : Int) - 1))).f0, (rd_T109 x3_1 (wrap64 ((x3_1.length : Int) - 1))).f1, (rd_T109 x3_1 (wrap64 ((x3_1.length : Int) - 1))).f2, (rd_T109 x3_1 (wrap64 ((x3_1.length : Int) - 1))).f3, ((rd_T109 x3_1 (wrap64 ((x3_1.length : Int) - 1))).f4) ++ ((rd_T109 l0 x4_1).f4), (rd_T109 x3_1 (wrap64 ((x3_1.length : Int) - 1))).f5, (rd_T109 x3_1 (wrap64 ((x3_1.length : Int) - 1))).f6, (rd_T109 x3_1 (wrap64 ((x3_1.length : Int) - 1))).f7, (rd_T109 x3_1 (wrap64 ((x3_1.length : Int) - 1))).f8⟩ : S109)) (wrap64 (x4_1 + 1))) else (none)) else (if x3_1.length < 1099511627776 then (tripartiteref07_Of.l0 kj2 l0 (x3_1 ++ [(⟨(rd_T109 l0 x4_1).f0, (rd_T109 l0 x4_1).f1, (rd_T109 l0 x4_1).f2, (rd_T109 l0 x4_1).f3, (rd_T109 l0 x4_1).f4, (rd_T109 l0 x4_1).f5, (rd_T109 l0 x4_1).f6, (rd_T109 l0 x4_1).f7, (rd_T109 l0 x4_1).f8⟩ : S109)]) (wrap64 (x4_1 + 1))) else (none)))) else (none)) else (none)) else (if x3_1.length < 1099511627776 then (tripartiteref07_Of.l0 kj2 l0 (x3_1 ++ [(⟨(rd_T109 l0 x4_1).f0, (rd_T109 l0 x4_1).f1, (rd_T109 l0 x4_1).f2, (rd_T109 l0 x4_1).f3, (rd_T109 l0 x4_1).f4, (rd_T109 l0 x4_1).f5, (rd_T109 l0 x4_1).f6, (rd_T109 l0 x4_1).f7, (rd_T109 l0 x4_1).f8⟩ : S109)]) (wrap64 (x4_1 + 1))) else (none))) else (if x3_1.length < 1099511627776 then (tripartiteref07_Of.l0 kj2 l0 (x3_1 ++ [(⟨(rd_T109 l0 x4_1).f0, (rd_T109 l0 x4_1).f1, (rd_T109 l0 x4_1).f2, (rd_T109 l0 x4_1).f3, (rd_T109 l0 x4_1).f4, (rd_T109 l0 x4_1).f5, (rd_T109 l0 x4_1).f6, (rd_T109 l0 x4_1).f7, (rd_T109 l0 x4_1).f8⟩ : S109)]) (wrap64 (x4_1 + 1))) else (none))) = some r := H
                  have A13 := Aside0.mk A130
                  clear A130
                  by_cases c14 : t227 = true
                  · subst c14
                    have H1 : (if (x3_1.length : Int) > 0 then (if 0 ≤ (wrap64 ((x3_1.length : Int) - 1)) then (if (wrap64 ((x3_1.length : Int) - 1)) < (x3_1.length : Int) then ((tripartiteref07_text.f ((rd_T109 x3_1 (wrap64 ((x3_1.length : Int) - 1))).f0) ((rd_T109 x3_1 (wrap64 ((x3_1.length : Int) - 1))).f1) ((rd_T109 x3_1 (wrap64 ((x3_1.length : Int) - 1))).f2) ((rd_T109 x3_1 (wrap64 ((x3_1.length : Int) - 1))).f3) ((rd_T109 x3_1 (wrap64 ((x3_1.length : Int) - 1))).f4) ((rd_T109 x3_1 (wrap64 ((x3_1.length : Int) - 1))).f5) ((rd_T109 x3_1 (wrap64 ((x3_1.length : Int) - 1))).f6) ((rd_T109 x3_1 (wrap64 ((x3_1.length : Int) - 1))).f7) ((rd_T109 x3_1 (wrap64 ((x3_1.length : Int) - 1))).f8)).bind fun t229 => (if t229 = true then (if ((rd_T109 x3_1 (wrap64 ((x3_1.length : Int) - 1))).f4).size + ((rd_T109 l0 x4_1).f4).size ≤ 9223372036854775807 then (tripartiteref07_Of.l0 kj2 l0 (x3_1.set ((wrap64 ((x3_1.length : Int) - 1)) : Int).toNat (⟨(rd_T109 x3_1 (wrap64 ((x3_1.length : Int) - 1))).f0, (rd_T109 x3_1 (wrap64 ((x3_1.length : Int) - 1))).f1, (rd_T109 x3_1 (wrap64 ((x3_1.length : Int) - 1))).f2, (rd_T109 x3_1 (wrap64 ((x3_1.length : Int) - 1))).f3, ((rd_T109 x3_1 (wrap64 ((x3_1.length : Int) - 1))).f4) ++ ((rd_T109 l0 x4_1).f4), (rd_T109 x3_1 (wrap64 ((x3_1.length : Int) - 1))).f5, (rd_T109 x3_1 (wrap64 ((x3_1.length : Int) - 1))).f6, (rd_T109 x3_1 (wrap64 ((x3_1.length : Int) - 1))).f7, (rd_T109 x3_1 (wrap64 ((x3_1.length : Int) - 1))).f8⟩ : S109)) (wrap64 (x4_1 + 1))) else (none)) else (if x3_1.length < 1099511627776 then (tripartiteref07_Of.l0 kj2 l0 (x3_1 ++ [(⟨(rd_T109 l0 x4_1).f0, (rd_T109 l0 x4_1).f1, (rd_T109 l0 x4_1).f2, (rd_T109 l0 x4_1).f3, (rd_T109 l0 x4_1).f4, (rd_T109 l0 x4_1).f5, (rd_T109 l0 x4_1).f6, (rd_T109 l0 x4_1).f7, (rd_T109 l0 x4_1).f8⟩ : S109)]) (wrap64 (x4_1 + 1))) else (none)))) else (none)) else (none)) else (if x3_1.length < 1099511627776 then (tripartiteref07_Of.l0 kj2 l0 (x3_1 ++ [(⟨(rd_T109 l0 x4_1).f0, (rd_T109 l0 x4_1).f1, (rd_T109 l0 x4_1).f2, (rd_T109 l0 x4_1).f3, (rd_T109 l0 x4_1).f4, (rd_T109 l0 x4_1).f5, (rd_T109 l0 x4_1).f6, (rd_T109 l0 x4_1).f7, (rd_T109 l0 x4_1).f8⟩ : S109)]) (wrap64 (x4_1 + 1))) else (none))) = some r := by rw [if_pos rfl] at H; exact H
                    clear H
                    have H := H1
                    clear H1
                    by_cases c15 : (x3_1.length : Int) > 0
                    · rw [if_pos c15] at H
                      have c15b0 : decide (0 < (x3_1.length : Int)) = true := decide_eq_true c15
                      have c15b1 : decide (0 < x3_1.length) = true := decide_eq_true (by omega)
                      clear c15
                      obtain ⟨ji16, hji16⟩ : ∃ j_ : Int, (wrap64 ((x3_1.length : Int) - 1)) = j_ := ⟨_, rfl⟩
                      replace H : (if 0 ≤ (ji16) then (if (ji16) < (x3_1.length : Int) then ((tripartiteref07_text.f ((rd_T109 x3_1 (ji16)).f0) ((rd_T109 x3_1 (ji16)).f1) ((rd_T109 x3_1 (ji16)).f2) ((rd_T109 x3_1 (ji16)).f3) ((rd_T109 x3_1 (ji16)).f4) ((rd_T109 x3_1 (ji16)).f5) ((rd_T109 x3_1 (ji16)).f6) ((rd_T109 x3_1 (ji16)).f7) ((rd_T109 x3_1 (ji16)).f8)).bind fun t229 => (if t229 = true then (if ((rd_T109 x3_1 (ji16)).f4).size + ((rd_T109 l0 x4_1).f4).size ≤ 9223372036854775807 then (tripartiteref07_Of.l0 kj2 l0 (x3_1.set ((ji16) : Int).toNat (⟨(rd_T109 x3_1 (ji16)).f0, (rd_T109 x3_1 (ji16)).f1, (rd_T109 x3_1 (ji16)).f2, (rd_T109 x3_1 (ji16)).f3, ((rd_T109 x3_1 (ji16)).f4) ++ ((rd_T109 l0 x4_1).f4), (rd_T109 x3_1 (ji16)).f5, (rd_T109 x3_1 (ji16)).f6, (rd_T109 x3_1 (ji16)).f7, (rd_T109 x3_1 (ji16)).f8⟩ : S109)) (wrap64 (x4_1 + 1))) else (none)) else (if x3_1.length < 1099511627776 then (tripartiteref07_Of.l0 kj2 l0 (x3_1 ++ [(⟨(rd_T109 l0 x4_1).f0, (rd_T109 l0 x4_1).f1, (rd_T109 l0 x4_1).f2, (rd_T109 l0 x4_1).f3, (rd_T109 l0 x4_1).f4, (rd_T109 l0 x4_1).f5, (rd_T109 l0 x4_1).f6, (rd_T109 l0 x4_1).f7, (rd_T109 l0 x4_1).f8⟩ : S109)]) (wrap64 (x4_1 + 1))) else (none)))) else (none)) else (none)) = some r := by first | (rw [hji16] at H; exact H) | (simp only [hji16] at H ⊢; exact H)
                      (try rw [hji16] at A13)
                      have hji16w : (IntKind.i64.wrap ((x3_1.length : Int) - 1)) = ji16 := (i64_w _).trans hji16
                      by_cases c17 : 0 ≤ (ji16)
                      · rw [if_pos c17] at H
                        have c17b0 : decide (0 ≤ (ji16)) = true := decide_eq_true c17
                        clear c17
                        by_cases c18 : (ji16) < (x3_1.length : Int)
                        · rw [if_pos c18] at H
                          have c18b0 : decide ((ji16) < (x3_1.length : Int)) = true := decide_eq_true c18
                          clear c18
                          replace H := Option.bind_eq_some_iff.mp H
                          obtain ⟨t229, A190, H⟩ := H
                          replace H : (if t229 = true then (if ((rd_T109 x3_1 (ji16)).f4).size + ((rd_T109 l0 x4_1).f4).size ≤ 9223372036854775807 then (tripartiteref07_Of.l0 kj2 l0 (x3_1.set ((ji16) : Int).toNat (⟨(rd_T109 x3_1 (ji16)).f0, (rd_T109 x3_1 (ji16)).f1, (rd_T109 x3_1 (ji16)).f2, (rd_T109 x3_1 (ji16)).f3, ((rd_T109 x3_1 (ji16)).f4) ++ ((rd_T109 l0 x4_1).f4), (rd_T109 x3_1 (ji16)).f5, (rd_T109 x3_1 (ji16)).f6, (rd_T109 x3_1 (ji16)).f7, (rd_T109 x3_1 (ji16)).f8⟩ : S109)) (wrap64 (x4_1 + 1))) else (none)) else (if x3_1.length < 1099511627776 then (tripartiteref07_Of.l0 kj2 l0 (x3_1 ++ [(⟨(rd_T109 l0 x4_1).f0, (rd_T109 l0 x4_1).f1, (rd_T109 l0 x4_1).f2, (rd_T109 l0 x4_1).f3, (rd_T109 l0 x4_1).f4, (rd_T109 l0 x4_1).f5, (rd_T109 l0 x4_1).f6, (rd_T109 l0 x4_1).f7, (rd_T109 l0 x4_1).f8⟩ : S109)]) (wrap64 (x4_1 + 1))) else (none))) = some r := H
                          have A19 := Aside0.mk A190
                          clear A190
                          by_cases c20 : t229 = true
                          · subst c20
                            have H1 : (if ((rd_T109 x3_1 (ji16)).f4).size + ((rd_T109 l0 x4_1).f4).size ≤ 9223372036854775807 then (tripartiteref07_Of.l0 kj2 l0 (x3_1.set ((ji16) : Int).toNat (⟨(rd_T109 x3_1 (ji16)).f0, (rd_T109 x3_1 (ji16)).f1, (rd_T109 x3_1 (ji16)).f2, (rd_T109 x3_1 (ji16)).f3, ((rd_T109 x3_1 (ji16)).f4) ++ ((rd_T109 l0 x4_1).f4), (rd_T109 x3_1 (ji16)).f5, (rd_T109 x3_1 (ji16)).f6, (rd_T109 x3_1 (ji16)).f7, (rd_T109 x3_1 (ji16)).f8⟩ : S109)) (wrap64 (x4_1 + 1))) else (none)) = some r := by rw [if_pos rfl] at H; exact H
                            clear H
                            have H := H1
                            clear H1
                            by_cases c21 : ((rd_T109 x3_1 (ji16)).f4).size + ((rd_T109 l0 x4_1).f4).size ≤ 9223372036854775807
                            · rw [if_pos c21] at H
                              have c21b0 := eq_true c21
                              have c21b1 : decide (((rd_T109 x3_1 (ji16)).f4).size + ((rd_T109 l0 x4_1).f4).size ≤ 9223372036854775807) = true := decide_eq_true c21
                              try have c21b2 : (9223372036854775807 < ((rd_T109 x3_1 (ji16)).f4).size + ((rd_T109 l0 x4_1).f4).size) = False := eq_false (Nat.not_lt.2 c21)
                              obtain ⟨y232, hy232⟩ : ∃ y_ : List (S109), y_ = (x3_1.set ((ji16) : Int).toNat (⟨(rd_T109 x3_1 (ji16)).f0, (rd_T109 x3_1 (ji16)).f1, (rd_T109 x3_1 (ji16)).f2, (rd_T109 x3_1 (ji16)).f3, ((rd_T109 x3_1 (ji16)).f4) ++ ((rd_T109 l0 x4_1).f4), (rd_T109 x3_1 (ji16)).f5, (rd_T109 x3_1 (ji16)).f6, (rd_T109 x3_1 (ji16)).f7, (rd_T109 x3_1 (ji16)).f8⟩ : S109)) := ⟨_, rfl⟩
                              replace H : (tripartiteref07_Of.l0 kj2 l0 y232 (wrap64 (x4_1 + 1))) = some r := by first | (rw [hy232]; with_reducible exact H) | (have H2_ := (Option.bind_some _ _).symm.trans H; rw [hy232]; with_reducible exact H2_) | (have H2_ := (Option.bind_some _ _).symm.trans H; with_reducible exact H2_) | with_reducible exact H | (rw [hy232]; exact H) | exact H
                              have Ny232 := Aside0.mk hy232
                              clear hy232
                              have H' := Aside0.mk H
                              clear H
                              have p226 : 0 ≤ (x4_1 : Int) := of_decide_eq_true (by first | (with_reducible assumption) | assumption)
                              have q226 : x4_1 < (l0.length : Int) := of_decide_eq_true (by first | (with_reducible assumption) | assumption)
                              obtain ⟨ad226, e226, hx226_0, hx226_1, hx226_2, hx226_3, hx226_4, hx226_5, hx226_6, hx226_7, hx226_8⟩ := at_T109 HR0.out x4_1 p226 q226
                              cases e226
                              replace hx226_0 := (HB.out.cell (World.block_lt_of_cell? w _ hx226_0)).trans hx226_0
                              replace hx226_1 := (HB.out.cell (World.block_lt_of_cell? w _ hx226_1)).trans hx226_1
                              replace hx226_2 := (HB.out.cell (World.block_lt_of_cell? w _ hx226_2)).trans hx226_2
                              replace hx226_3 := (HB.out.cell (World.block_lt_of_cell? w _ hx226_3)).trans hx226_3
                              replace hx226_4 := (HB.out.cell (World.block_lt_of_cell? w _ hx226_4)).trans hx226_4
                              replace hx226_5 := (HB.out.cell (World.block_lt_of_cell? w _ hx226_5)).trans hx226_5
                              replace hx226_6 := (HB.out.cell (World.block_lt_of_cell? w _ hx226_6)).trans hx226_6
                              replace hx226_7 := (HB.out.cell (World.block_lt_of_cell? w _ hx226_7)).trans hx226_7
                              replace hx226_8 := (HB.out.cell (World.block_lt_of_cell? w _ hx226_8)).trans hx226_8
                              replace p226 := eq_true p226
                              replace q226 := eq_true q226
                              try go_wp2_with (first | ((with_reducible refine gate_callee (f := 77) rfl ?_); refine goesL_ (some 31) rfl rfl Try.func77 (by kernel_rfl) rfl #[.agg #[.string ((rd_T109 l0 x4_1).f0), .string ((rd_T109 l0 x4_1).f1), .string ((rd_T109 l0 x4_1).f2), .bool ((rd_T109 l0 x4_1).f3), .string ((rd_T109 l0 x4_1).f4), .string ((rd_T109 l0 x4_1).f5), .string ((rd_T109 l0 x4_1).f6), .string ((rd_T109 l0 x4_1).f7), .bool ((rd_T109 l0 x4_1).f8)]] rfl (by (try simp only [List.map_toArray, List.map_cons, List.map_nil]); first | done | rfl | (simp only [List.length_drop, List.length_take]; rfl)) ?_; (with_reducible refine (tripartiteref07_text.calls ((rd_T109 l0 x4_1).f0) ((rd_T109 l0 x4_1).f1) ((rd_T109 l0 x4_1).f2) ((rd_T109 l0 x4_1).f3) ((rd_T109 l0 x4_1).f4) ((rd_T109 l0 x4_1).f5) ((rd_T109 l0 x4_1).f6) ((rd_T109 l0 x4_1).f7) ((rd_T109 l0 x4_1).f8) true _ A13.out).mono ?_); rintro e w23 ⟨rfl, hb⟩; refine ⟨_, rfl, ?_⟩; have n0_ := Aside0.mk (Kd.R_below (by (with_reducible repeat (first | apply Kd.R_alloc | apply Kd.R_drewN | apply Kd.R_drew)); exact HO_3.out) hb); have n1_ := Aside0.mk (below_step (by repeat (first | (with_reducible first | exact HB.out | apply below_alloc | apply pw_below_drewN | apply below_drew1) | exact HB.out)) hb); clear HO_3; clear HB; have HO_3 := n0_; have HB := n1_; clear n0_ n1_; (try clear hb); (try clear hb2); (try clear hk); (try clear hi); have p228 : 0 ≤ ((ji16) : Int) := of_decide_eq_true (by first | (with_reducible assumption) | assumption); have q228 : (ji16) < (x3_1.length : Int) := of_decide_eq_true (by first | (with_reducible assumption) | assumption); obtain ⟨ad228, e228, hx228_0, hx228_1, hx228_2, hx228_3, hx228_4, hx228_5, hx228_6, hx228_7, hx228_8⟩ := at_T109 (Kd.R_reads' HO_3.out).2.2 (ji16) p228 q228; cases e228; replace p228 := eq_true p228; replace q228 := eq_true q228) | (go_at_call 77; (with_reducible refine (tripartiteref07_text.calls ((rd_T109 x3_1 (ji16)).f0) ((rd_T109 x3_1 (ji16)).f1) ((rd_T109 x3_1 (ji16)).f2) ((rd_T109 x3_1 (ji16)).f3) ((rd_T109 x3_1 (ji16)).f4) ((rd_T109 x3_1 (ji16)).f5) ((rd_T109 x3_1 (ji16)).f6) ((rd_T109 x3_1 (ji16)).f7) ((rd_T109 x3_1 (ji16)).f8) true _ A19.out).mono ?_); rintro e w24 ⟨rfl, hb⟩; have n0_ := Aside0.mk (Kd.R_below (by (with_reducible repeat (first | apply Kd.R_alloc | apply Kd.R_drewN | apply Kd.R_drew)); exact HO_3.out) hb); have n1_ := Aside0.mk (below_step (by repeat (first | (with_reducible first | exact HB.out | apply below_alloc | apply pw_below_drewN | apply below_drew1) | exact HB.out)) hb); clear HO_3; clear HB; have HO_3 := n0_; have HB := n1_; clear n0_ n1_; (try clear hb); (try clear hb2); (try clear hk); (try clear hi)))
                              have n0_ := Aside0.mk (Kd.R_drew HO_3.out)
                              have n1_ := Aside0.mk (below_drew1 HB.out)
                              clear HO_3
                              clear HB
                              have HO_3 := n0_
                              have HB := n1_
                              clear n0_ n1_
                              have p230 : 0 ≤ ((ji16) : Int) := of_decide_eq_true (by first | (with_reducible assumption) | assumption)
                              have q230 : (ji16) < (x3_1.length : Int) := of_decide_eq_true (by first | (with_reducible assumption) | assumption)
                              obtain ⟨ad230, e230, hx230_0, hx230_1, hx230_2, hx230_3, hx230_4, hx230_5, hx230_6, hx230_7, hx230_8⟩ := at_T109 (Kd.R_reads' HO_3.out).2.2 (ji16) p230 q230
                              obtain rfl : ad228 = ad230 := (by injection e230)
                              replace p230 := eq_true p230
                              replace q230 := eq_true q230
                              have p231 : 0 ≤ (x4_1 : Int) := of_decide_eq_true (by first | (with_reducible assumption) | assumption)
                              have q231 : x4_1 < (l0.length : Int) := of_decide_eq_true (by first | (with_reducible assumption) | assumption)
                              obtain ⟨ad231, e231, hx231_0, hx231_1, hx231_2, hx231_3, hx231_4, hx231_5, hx231_6, hx231_7, hx231_8⟩ := at_T109 HR0.out x4_1 p231 q231
                              have hw231_8 := hx231_8
                              have hw231_7 := hx231_7
                              have hw231_6 := hx231_6
                              have hw231_5 := hx231_5
                              have hw231_4 := hx231_4
                              have hw231_3 := hx231_3
                              have hw231_2 := hx231_2
                              have hw231_1 := hx231_1
                              have hw231_0 := hx231_0
                              obtain rfl : ad226 = ad231 := (by injection e231)
                              replace hx231_0 := (HB.out.cell (World.block_lt_of_cell? w _ hx231_0)).trans hx231_0
                              replace hx231_1 := (HB.out.cell (World.block_lt_of_cell? w _ hx231_1)).trans hx231_1
                              replace hx231_2 := (HB.out.cell (World.block_lt_of_cell? w _ hx231_2)).trans hx231_2
                              replace hx231_3 := (HB.out.cell (World.block_lt_of_cell? w _ hx231_3)).trans hx231_3
                              replace hx231_4 := (HB.out.cell (World.block_lt_of_cell? w _ hx231_4)).trans hx231_4
                              replace hx231_5 := (HB.out.cell (World.block_lt_of_cell? w _ hx231_5)).trans hx231_5
                              replace hx231_6 := (HB.out.cell (World.block_lt_of_cell? w _ hx231_6)).trans hx231_6
                              replace hx231_7 := (HB.out.cell (World.block_lt_of_cell? w _ hx231_7)).trans hx231_7
                              replace hx231_8 := (HB.out.cell (World.block_lt_of_cell? w _ hx231_8)).trans hx231_8
                              replace p231 := eq_true p231
                              replace q231 := eq_true q231
                              have p22 : 0 ≤ ((ji16) : Int) := of_decide_eq_true (by first | (with_reducible assumption) | assumption)
                              have q22 : ((ji16) : Int) < ((x3_1.length : Int) : Int) := of_decide_eq_true (by first | (with_reducible assumption) | assumption)
                              obtain ⟨go22, co22, eo22, gb22, gl22, cl22, HG22⟩ := Kd.R_form HO_3.out (by omega)
                              (first | cases eo22 | (injection eo22 with ea_ en_ ec_; (first | subst ea_ | (injection ea_ with ea_; subst ea_)); subst ec_; clear en_))
                              have GB22 := Aside0.mk gb22
                              have GG22 := Aside0.mk HG22
                              clear gb22 gl22 HG22
                              (first | simp only [add_plain] at hx228_0 | skip)
                              (first | simp only [add_plain] at hx228_1 | skip)
                              (first | simp only [add_plain] at hx228_2 | skip)
                              (first | simp only [add_plain] at hx228_3 | skip)
                              (first | simp only [add_plain] at hx228_4 | skip)
                              (first | simp only [add_plain] at hx228_5 | skip)
                              (first | simp only [add_plain] at hx228_6 | skip)
                              (first | simp only [add_plain] at hx228_7 | skip)
                              (first | simp only [add_plain] at hx228_8 | skip)
                              (first | simp only [add_plain] at hx230_0 | skip)
                              (first | simp only [add_plain] at hx230_1 | skip)
                              (first | simp only [add_plain] at hx230_2 | skip)
                              (first | simp only [add_plain] at hx230_3 | skip)
                              (first | simp only [add_plain] at hx230_4 | skip)
                              (first | simp only [add_plain] at hx230_5 | skip)
                              (first | simp only [add_plain] at hx230_6 | skip)
                              (first | simp only [add_plain] at hx230_7 | skip)
                              (first | simp only [add_plain] at hx230_8 | skip)
                              obtain ⟨ce22, hcl22, hM22, hcc22, hfr22⟩ := Kd.R_elem HO_3.out z109 ((ji16) : Int) p22 q22
                              obtain rfl := k109_openM hM22
                              have hx22_0 : World.cell? _ ⟨go22, ((ji16) : Int).toNat * 9, none⟩ = some (.string ((rd_T109 x3_1 (ji16)).f0)) := hcc22 0 _ rfl
                              have hx22_1 : World.cell? _ ⟨go22, ((ji16) : Int).toNat * 9 + 1, none⟩ = some (.string ((rd_T109 x3_1 (ji16)).f1)) := hcc22 1 _ rfl
                              have hx22_2 : World.cell? _ ⟨go22, ((ji16) : Int).toNat * 9 + 2, none⟩ = some (.string ((rd_T109 x3_1 (ji16)).f2)) := hcc22 2 _ rfl
                              have hx22_3 : World.cell? _ ⟨go22, ((ji16) : Int).toNat * 9 + 3, none⟩ = some (.bool ((rd_T109 x3_1 (ji16)).f3)) := hcc22 3 _ rfl
                              have hx22_4 : World.cell? _ ⟨go22, ((ji16) : Int).toNat * 9 + 4, none⟩ = some (.string ((rd_T109 x3_1 (ji16)).f4)) := hcc22 4 _ rfl
                              have hx22_5 : World.cell? _ ⟨go22, ((ji16) : Int).toNat * 9 + 5, none⟩ = some (.string ((rd_T109 x3_1 (ji16)).f5)) := hcc22 5 _ rfl
                              have hx22_6 : World.cell? _ ⟨go22, ((ji16) : Int).toNat * 9 + 6, none⟩ = some (.string ((rd_T109 x3_1 (ji16)).f6)) := hcc22 6 _ rfl
                              have hx22_7 : World.cell? _ ⟨go22, ((ji16) : Int).toNat * 9 + 7, none⟩ = some (.string ((rd_T109 x3_1 (ji16)).f7)) := hcc22 7 _ rfl
                              have hx22_8 : World.cell? _ ⟨go22, ((ji16) : Int).toNat * 9 + 8, none⟩ = some (.bool ((rd_T109 x3_1 (ji16)).f8)) := hcc22 8 _ rfl
                              have hf22_0 : World.frozen? _ ⟨go22, ((ji16) : Int).toNat * 9, none⟩ = false := hfr22 0
                              have hf22_1 : World.frozen? _ ⟨go22, ((ji16) : Int).toNat * 9 + 1, none⟩ = false := hfr22 1
                              have hf22_2 : World.frozen? _ ⟨go22, ((ji16) : Int).toNat * 9 + 2, none⟩ = false := hfr22 2
                              have hf22_3 : World.frozen? _ ⟨go22, ((ji16) : Int).toNat * 9 + 3, none⟩ = false := hfr22 3
                              have hf22_4 : World.frozen? _ ⟨go22, ((ji16) : Int).toNat * 9 + 4, none⟩ = false := hfr22 4
                              have hf22_5 : World.frozen? _ ⟨go22, ((ji16) : Int).toNat * 9 + 5, none⟩ = false := hfr22 5
                              have hf22_6 : World.frozen? _ ⟨go22, ((ji16) : Int).toNat * 9 + 6, none⟩ = false := hfr22 6
                              have hf22_7 : World.frozen? _ ⟨go22, ((ji16) : Int).toNat * 9 + 7, none⟩ = false := hfr22 7
                              have hf22_8 : World.frozen? _ ⟨go22, ((ji16) : Int).toNat * 9 + 8, none⟩ = false := hfr22 8
                              clear hcl22 hcc22 hfr22 hM22
                              replace p22 := eq_true p22
                              replace q22 := eq_true q22
                              obtain ⟨ce26, hcl26, hM26, hcc26, hfr26⟩ := Kd.R_elem HO_3.out z109 ((ji16) : Int) (of_decide_eq_true (by first | (with_reducible assumption) | assumption)) (by have h_ : ((ji16) : Int) < ((x3_1.length : Int) : Int) := of_decide_eq_true (by first | (with_reducible assumption) | assumption); first | exact h_ | (have e_ := (Kd.R_reads' HO_3.out).1; omega) | simpa using h_)
                              obtain rfl := k109_openM hM26
                              have HP26 := (Kd.R_seg HO_3.out ((ji16) : Int) (of_decide_eq_true (by first | (with_reducible assumption) | assumption)) (by have h_ : ((ji16) : Int) < ((x3_1.length : Int) : Int) := of_decide_eq_true (by first | (with_reducible assumption) | assumption); first | exact h_ | (have e_ := (Kd.R_reads' HO_3.out).1; omega) | simpa using h_) (seg := [.string (((rd_T109 x3_1 (ji16)).f4) ++ ((rd_T109 l0 x4_1).f4))]) (j := 4) hcl26 hcc26 (show 5 ≤ 9 from by decide) (x' := (⟨(rd_T109 x3_1 (ji16)).f0, (rd_T109 x3_1 (ji16)).f1, (rd_T109 x3_1 (ji16)).f2, (rd_T109 x3_1 (ji16)).f3, ((rd_T109 x3_1 (ji16)).f4) ++ ((rd_T109 l0 x4_1).f4), (rd_T109 x3_1 (ji16)).f5, (rd_T109 x3_1 (ji16)).f6, (rd_T109 x3_1 (ji16)).f7, (rd_T109 x3_1 (ji16)).f8⟩ : S109)) (k109_mkM _ _ _ (⟨(rd_T109 x3_1 (ji16)).f0, (rd_T109 x3_1 (ji16)).f1, (rd_T109 x3_1 (ji16)).f2, (rd_T109 x3_1 (ji16)).f3, ((rd_T109 x3_1 (ji16)).f4) ++ ((rd_T109 l0 x4_1).f4), (rd_T109 x3_1 (ji16)).f5, (rd_T109 x3_1 (ji16)).f6, (rd_T109 x3_1 (ji16)).f7, (rd_T109 x3_1 (ji16)).f8⟩ : S109) ) (fun _ hk => hk)).1
                              rw [← Ny232.out] at HP26
                              have HQ26 := Aside0.mk HP26
                              clear hcl26 hcc26 hfr26 hM26 HP26
                              refine start_ (n := 18) (S := fun w' => w'.cell? ⟨go22, ((ji16)).toNat * 9, none⟩ = some (.string ((rd_T109 x3_1 (ji16)).f0)) ∧ w'.cell? ⟨go22, ((ji16)).toNat * 9 + 1, none⟩ = some (.string ((rd_T109 x3_1 (ji16)).f1)) ∧ w'.cell? ⟨go22, ((ji16)).toNat * 9 + 2, none⟩ = some (.string ((rd_T109 x3_1 (ji16)).f2)) ∧ w'.cell? ⟨go22, ((ji16)).toNat * 9 + 3, none⟩ = some (.bool ((rd_T109 x3_1 (ji16)).f3)) ∧ w'.cell? ⟨go22, ((ji16)).toNat * 9 + 4, none⟩ = some (.string ((rd_T109 x3_1 (ji16)).f4)) ∧ w'.cell? ⟨go22, ((ji16)).toNat * 9 + 5, none⟩ = some (.string ((rd_T109 x3_1 (ji16)).f5)) ∧ w'.cell? ⟨go22, ((ji16)).toNat * 9 + 6, none⟩ = some (.string ((rd_T109 x3_1 (ji16)).f6)) ∧ w'.cell? ⟨go22, ((ji16)).toNat * 9 + 7, none⟩ = some (.string ((rd_T109 x3_1 (ji16)).f7)) ∧ w'.cell? ⟨go22, ((ji16)).toNat * 9 + 8, none⟩ = some (.bool ((rd_T109 x3_1 (ji16)).f8)) ∧ w'.cell? (ad226.add ((x4_1).toNat * 9)) = some (.string ((rd_T109 l0 x4_1).f0)) ∧ w'.cell? ⟨(ad226.add ((x4_1).toNat * 9)).block, (ad226.add ((x4_1).toNat * 9)).off + 1, none⟩ = some (.string ((rd_T109 l0 x4_1).f1)) ∧ w'.cell? ⟨(ad226.add ((x4_1).toNat * 9)).block, (ad226.add ((x4_1).toNat * 9)).off + 2, none⟩ = some (.string ((rd_T109 l0 x4_1).f2)) ∧ w'.cell? ⟨(ad226.add ((x4_1).toNat * 9)).block, (ad226.add ((x4_1).toNat * 9)).off + 3, none⟩ = some (.bool ((rd_T109 l0 x4_1).f3)) ∧ w'.cell? ⟨(ad226.add ((x4_1).toNat * 9)).block, (ad226.add ((x4_1).toNat * 9)).off + 4, none⟩ = some (.string ((rd_T109 l0 x4_1).f4)) ∧ w'.cell? ⟨(ad226.add ((x4_1).toNat * 9)).block, (ad226.add ((x4_1).toNat * 9)).off + 5, none⟩ = some (.string ((rd_T109 l0 x4_1).f5)) ∧ w'.cell? ⟨(ad226.add ((x4_1).toNat * 9)).block, (ad226.add ((x4_1).toNat * 9)).off + 6, none⟩ = some (.string ((rd_T109 l0 x4_1).f6)) ∧ w'.cell? ⟨(ad226.add ((x4_1).toNat * 9)).block, (ad226.add ((x4_1).toNat * 9)).off + 7, none⟩ = some (.string ((rd_T109 l0 x4_1).f7)) ∧ w'.cell? ⟨(ad226.add ((x4_1).toNat * 9)).block, (ad226.add ((x4_1).toNat * 9)).off + 8, none⟩ = some (.bool ((rd_T109 l0 x4_1).f8))) (ds := [17]) #[false, false, false, false, false, false, false, false, false, false, false, false, false, false, false, false, false, false] (by kernel_rfl) rfl rfl ⟨hx230_0, hx230_1, hx230_2, hx230_3, hx230_4, hx230_5, hx230_6, hx230_7, hx230_8, ((HB.out.cell (World.block_lt_of_cell? w _ hw231_0)).trans hw231_0), ((HB.out.cell (World.block_lt_of_cell? w _ hw231_1)).trans hw231_1), ((HB.out.cell (World.block_lt_of_cell? w _ hw231_2)).trans hw231_2), ((HB.out.cell (World.block_lt_of_cell? w _ hw231_3)).trans hw231_3), ((HB.out.cell (World.block_lt_of_cell? w _ hw231_4)).trans hw231_4), ((HB.out.cell (World.block_lt_of_cell? w _ hw231_5)).trans hw231_5), ((HB.out.cell (World.block_lt_of_cell? w _ hw231_6)).trans hw231_6), ((HB.out.cell (World.block_lt_of_cell? w _ hw231_7)).trans hw231_7), ((HB.out.cell (World.block_lt_of_cell? w _ hw231_8)).trans hw231_8)⟩ (fun hHeld => ?_); refine with_tabW tripartiteref07_Of.tab8 tripartiteref07_Of.bits8 (fun HT_ HW_ => ?_)
                              generalize w24.drew = w25 at HO_3 HB GG22 HQ26 hf22_0 hf22_1 hf22_2 hf22_3 hf22_4 hf22_5 hf22_6 hf22_7 hf22_8 hx228_0 hx228_1 hx228_2 hx228_3 hx228_4 hx228_5 hx228_6 hx228_7 hx228_8 hx22_0 hx22_1 hx22_2 hx22_3 hx22_4 hx22_5 hx22_6 hx22_7 hx22_8 hx230_0 hx230_1 hx230_2 hx230_3 hx230_4 hx230_5 hx230_6 hx230_7 hx230_8 hx231_0 hx231_1 hx231_2 hx231_3 hx231_4 hx231_5 hx231_6 hx231_7 hx231_8 hHeld ⊢
                              refine pure_ (i := 0) (N := some 44) (v := ?_) (a' := ?_) #[true, false, false, false, false, false, false, false, false, false, false, false, false, false, false, false, false, false] rfl rfl (any_of HT_.out (by kernel_rfl)) (fun _ _ _ h => h) (Or.inl ⟨by rfl, ?_⟩) ?_ ?_
                              rotate_left
                              · intro w'
                                go_simp
                                with_reducible rfl
                              rotate_left
                              · simp only [Act.put, List.setIfInBounds_toArray, List.set_cons_zero, List.set_cons_succ, i64_w, i32_w]
                                rfl
                              refine pure_ (i := 1) (N := some 45) (v := ?_) (a' := ?_) #[true, true, false, false, false, false, false, false, false, false, false, false, false, false, false, false, false, false] rfl rfl (any_of HT_.out (by kernel_rfl)) (fun _ _ _ h => h) (Or.inl ⟨by rfl, ?_⟩) ?_ ?_
                              rotate_left
                              · intro w'
                                go_simp
                                with_reducible rfl
                              rotate_left
                              · simp only [Act.put, List.setIfInBounds_toArray, List.set_cons_zero, List.set_cons_succ, i64_w, i32_w]
                                rfl
                              refine pure_ (i := 2) (N := some 46) (v := ?_) (a' := ?_) #[true, true, true, false, false, false, false, false, false, false, false, false, false, false, false, false, false, false] rfl rfl (any_of HT_.out (by kernel_rfl)) (fun _ _ _ h => h) (Or.inl ⟨by rfl, ?_⟩) ?_ ?_
                              rotate_left
                              · intro w'
                                go_simp
                                with_reducible rfl
                              rotate_left
                              · simp only [Act.put, List.setIfInBounds_toArray, List.set_cons_zero, List.set_cons_succ, i64_w, i32_w]
                                rfl
                              refine pure_ (i := 3) (N := some 47) (v := ?_) (a' := ?_) #[true, true, true, true, false, false, false, false, false, false, false, false, false, false, false, false, false, false] rfl rfl (any_of HT_.out (by kernel_rfl)) (fun _ _ _ h => h) (Or.inl ⟨by rfl, ?_⟩) ?_ ?_
                              rotate_left
                              · intro w'
                                go_simp
                                with_reducible rfl
                              rotate_left
                              · simp only [Act.put, List.setIfInBounds_toArray, List.set_cons_zero, List.set_cons_succ, i64_w, i32_w]
                                rfl
                              refine pure_ (i := 4) (N := some 48) (v := ?_) (a' := ?_) #[true, true, true, true, true, false, false, false, false, false, false, false, false, false, false, false, false, false] rfl rfl (any_of HT_.out (by kernel_rfl)) (fun _ _ _ h => h) (Or.inl ⟨by rfl, ?_⟩) ?_ ?_
                              rotate_left
                              · intro w'
                                go_simp
                                with_reducible rfl
                              rotate_left
                              · simp only [Act.put, List.setIfInBounds_toArray, List.set_cons_zero, List.set_cons_succ, i64_w, i32_w]
                                rfl
                              refine pure_ (i := 5) (N := some 49) (v := ?_) (a' := ?_) #[true, true, true, true, true, true, false, false, false, false, false, false, false, false, false, false, false, false] rfl rfl (any_of HT_.out (by kernel_rfl)) (fun _ _ _ h => h) (Or.inl ⟨by rfl, ?_⟩) ?_ ?_
                              rotate_left
                              · intro w'
                                go_simp
                                with_reducible rfl
                              rotate_left
                              · simp only [Act.put, List.setIfInBounds_toArray, List.set_cons_zero, List.set_cons_succ, i64_w, i32_w]
                                rfl
                              refine pure_ (i := 6) (N := some 50) (v := ?_) (a' := ?_) #[true, true, true, true, true, true, true, false, false, false, false, false, false, false, false, false, false, false] rfl rfl (any_of HT_.out (by kernel_rfl)) (fun _ _ _ h => h) (Or.inl ⟨by rfl, ?_⟩) ?_ ?_
                              rotate_left
                              · intro w'
                                go_simp
                                with_reducible rfl
                              rotate_left
                              · simp only [Act.put, List.setIfInBounds_toArray, List.set_cons_zero, List.set_cons_succ, i64_w, i32_w]
                                rfl
                              refine pure_ (i := 7) (N := some 51) (v := ?_) (a' := ?_) #[true, true, true, true, true, true, true, true, false, false, false, false, false, false, false, false, false, false] rfl rfl (any_of HT_.out (by kernel_rfl)) (fun _ _ _ h => h) (Or.inl ⟨by rfl, ?_⟩) ?_ ?_
                              rotate_left
                              · intro w'
                                go_simp
                                with_reducible rfl
                              rotate_left
                              · simp only [Act.put, List.setIfInBounds_toArray, List.set_cons_zero, List.set_cons_succ, i64_w, i32_w]
                                rfl
                              refine pure_ (i := 9) (N := some 53) (v := ?_) (a' := ?_) #[true, true, true, true, true, true, true, true, false, true, false, false, false, false, false, false, false, false] rfl rfl (any_of HT_.out (by kernel_rfl)) (fun _ _ _ h => h) (Or.inl ⟨by rfl, ?_⟩) ?_ ?_
                              rotate_left
                              · intro w'
                                go_simp
                                with_reducible rfl
                              rotate_left
                              · simp only [Act.put, List.setIfInBounds_toArray, List.set_cons_zero, List.set_cons_succ, i64_w, i32_w]
                                rfl
                              refine pure_ (i := 10) (N := some 54) (v := ?_) (a' := ?_) #[true, true, true, true, true, true, true, true, false, true, true, false, false, false, false, false, false, false] rfl rfl (any_of HT_.out (by kernel_rfl)) (fun _ _ _ h => h) (Or.inl ⟨by rfl, ?_⟩) ?_ ?_
                              rotate_left
                              · intro w'
                                go_simp
                                with_reducible rfl
                              rotate_left
                              · simp only [Act.put, List.setIfInBounds_toArray, List.set_cons_zero, List.set_cons_succ, i64_w, i32_w]
                                rfl
                              refine pure_ (i := 11) (N := some 55) (v := ?_) (a' := ?_) #[true, true, true, true, true, true, true, true, false, true, true, true, false, false, false, false, false, false] rfl rfl (any_of HT_.out (by kernel_rfl)) (fun _ _ _ h => h) (Or.inl ⟨by rfl, ?_⟩) ?_ ?_
                              rotate_left
                              · intro w'
                                go_simp
                                with_reducible rfl
                              rotate_left
                              · simp only [Act.put, List.setIfInBounds_toArray, List.set_cons_zero, List.set_cons_succ, i64_w, i32_w]
                                rfl
                              refine pure_ (i := 12) (N := some 56) (v := ?_) (a' := ?_) #[true, true, true, true, true, true, true, true, false, true, true, true, true, false, false, false, false, false] rfl rfl (any_of HT_.out (by kernel_rfl)) (fun _ _ _ h => h) (Or.inl ⟨by rfl, ?_⟩) ?_ ?_
                              rotate_left
                              · intro w'
                                go_simp
                                with_reducible rfl
                              rotate_left
                              · simp only [Act.put, List.setIfInBounds_toArray, List.set_cons_zero, List.set_cons_succ, i64_w, i32_w]
                                rfl
                              refine take_ (i := 8) (N := some 52) (v := ?_) (a' := ?_) #[true, true, true, true, true, true, true, true, true, true, true, true, true, false, false, false, false, false] rfl rfl (take_ofW HT_.out HW_.out (by kernel_rfl)) (fun _ _ _ h => h) (Or.inl ⟨by rfl, ?_⟩) hHeld ?_ ?_
                              rotate_left
                              · rintro w' ⟨s0, s1, s2, s3, s4, s5, s6, s7, s8, s9, s10, s11, s12, s13, s14, s15, s16, s17⟩
                                go_simp
                                with_reducible rfl
                              rotate_left
                              · simp only [Act.put, List.setIfInBounds_toArray, List.set_cons_zero, List.set_cons_succ, i64_w, i32_w]
                                rfl
                              refine take_ (i := 13) (N := some 57) (v := ?_) (a' := ?_) #[true, true, true, true, true, true, true, true, true, true, true, true, true, true, false, false, false, false] rfl rfl (take_ofW HT_.out HW_.out (by kernel_rfl)) (fun _ _ _ h => h) (Or.inl ⟨by rfl, ?_⟩) hHeld ?_ ?_
                              rotate_left
                              · rintro w' ⟨s0, s1, s2, s3, s4, s5, s6, s7, s8, s9, s10, s11, s12, s13, s14, s15, s16, s17⟩
                                go_simp
                                with_reducible rfl
                              rotate_left
                              · simp only [Act.put, List.setIfInBounds_toArray, List.set_cons_zero, List.set_cons_succ, i64_w, i32_w]
                                rfl
                              refine pure_ (i := 14) (N := some 58) (v := ?_) (a' := ?_) #[true, true, true, true, true, true, true, true, true, true, true, true, true, true, true, false, false, false] rfl rfl (any_of HT_.out (by kernel_rfl)) (fun _ _ _ h => h) (Or.inl ⟨by rfl, ?_⟩) ?_ ?_
                              rotate_left
                              · intro w'
                                go_simp
                                with_reducible rfl
                              rotate_left
                              · simp only [Act.put, List.setIfInBounds_toArray, List.set_cons_zero, List.set_cons_succ, i64_w, i32_w]
                                rfl
                              refine pure_ (i := 15) (N := some 59) (v := ?_) (a' := ?_) #[true, true, true, true, true, true, true, true, true, true, true, true, true, true, true, true, false, false] rfl rfl (any_of HT_.out (by kernel_rfl)) (fun _ _ _ h => h) (Or.inl ⟨by rfl, ?_⟩) ?_ ?_
                              rotate_left
                              · intro w'
                                go_simp
                                with_reducible rfl
                              rotate_left
                              · simp only [Act.put, List.setIfInBounds_toArray, List.set_cons_zero, List.set_cons_succ, i64_w, i32_w]
                                rfl
                              refine pure_ (i := 16) (N := some 60) (v := ?_) (a' := ?_) #[true, true, true, true, true, true, true, true, true, true, true, true, true, true, true, true, true, false] rfl rfl (any_of HT_.out (by kernel_rfl)) (fun _ _ _ h => h) (Or.inl ⟨by rfl, ?_⟩) ?_ ?_
                              rotate_left
                              · intro w'
                                go_simp
                                with_reducible rfl
                              rotate_left
                              · simp only [Act.put, List.setIfInBounds_toArray, List.set_cons_zero, List.set_cons_succ, i64_w, i32_w]
                                rfl
                              refine last_ (i := 17) (N := none) #[true, true, true, true, true, true, true, true, true, true, true, true, true, true, true, true, true, true] rfl rfl (one_of HT_.out (by kernel_rfl)) (by decide) (fun K hK => ?_)
                              refine skip_ (w1 := ?_) (by rfl) rfl ?_ ?_
                              rotate_left
                              · go_simp
                                rfl
                              refine hK.out _ _ ?_
                              clear hK K
                              refine done_ (done_of HT_.out (by kernel_rfl)) ?_
                              try go_wp2
                              go_roundg kj2
                              case measure => have := HK1.out; have := HJ2.out; omega
                              case rel => exact ⟨(y232), (wrap64 (x4_1 + 1)), (by first | rfl | (simp; done) | (simp [*]; done)), H', ⟨by have := HK1.out; have := HJ2.out; omega⟩, ⟨by (with_reducible repeat (first | apply Kd.R_alloc | apply Kd.R_drewN | apply Kd.R_drew)); exact HQ26.out⟩, ⟨by repeat (first | (with_reducible first | exact HB.out | apply below_alloc | apply pw_below_drewN | apply below_drew1 | refine below_set ?_ GB22.out) | exact HB.out)⟩⟩
                            · rw [if_neg c21] at H
                              exact absurd H (by simp)
                          · replace c20 := Bool.eq_false_iff.mpr c20
                            subst c20
                            have H1 : (if x3_1.length < 1099511627776 then (tripartiteref07_Of.l0 kj2 l0 (x3_1 ++ [(⟨(rd_T109 l0 x4_1).f0, (rd_T109 l0 x4_1).f1, (rd_T109 l0 x4_1).f2, (rd_T109 l0 x4_1).f3, (rd_T109 l0 x4_1).f4, (rd_T109 l0 x4_1).f5, (rd_T109 l0 x4_1).f6, (rd_T109 l0 x4_1).f7, (rd_T109 l0 x4_1).f8⟩ : S109)]) (wrap64 (x4_1 + 1))) else (none)) = some r := by rw [if_neg (show ¬ (false = true) by decide)] at H; exact H
                            clear H
                            have H := H1
                            clear H1
                            by_cases c27 : x3_1.length < 1099511627776
                            · rw [if_pos c27] at H
                              have LMc27 := Aside0.mk c27
                              clear c27
                              obtain ⟨y234, hy234⟩ : ∃ y_ : List (S109), y_ = (x3_1 ++ [(⟨(rd_T109 l0 x4_1).f0, (rd_T109 l0 x4_1).f1, (rd_T109 l0 x4_1).f2, (rd_T109 l0 x4_1).f3, (rd_T109 l0 x4_1).f4, (rd_T109 l0 x4_1).f5, (rd_T109 l0 x4_1).f6, (rd_T109 l0 x4_1).f7, (rd_T109 l0 x4_1).f8⟩ : S109)]) := ⟨_, rfl⟩
                              replace H : (tripartiteref07_Of.l0 kj2 l0 y234 (wrap64 (x4_1 + 1))) = some r := by first | (rw [hy234]; with_reducible exact H) | (have H2_ := (Option.bind_some _ _).symm.trans H; rw [hy234]; with_reducible exact H2_) | (have H2_ := (Option.bind_some _ _).symm.trans H; with_reducible exact H2_) | with_reducible exact H | (rw [hy234]; exact H) | exact H
                              have Ny234 := Aside0.mk hy234
                              clear hy234
                              have H' := Aside0.mk H
                              clear H
                              have p226 : 0 ≤ (x4_1 : Int) := of_decide_eq_true (by first | (with_reducible assumption) | assumption)
                              have q226 : x4_1 < (l0.length : Int) := of_decide_eq_true (by first | (with_reducible assumption) | assumption)
                              obtain ⟨ad226, e226, hx226_0, hx226_1, hx226_2, hx226_3, hx226_4, hx226_5, hx226_6, hx226_7, hx226_8⟩ := at_T109 HR0.out x4_1 p226 q226
                              cases e226
                              replace hx226_0 := (HB.out.cell (World.block_lt_of_cell? w _ hx226_0)).trans hx226_0
                              replace hx226_1 := (HB.out.cell (World.block_lt_of_cell? w _ hx226_1)).trans hx226_1
                              replace hx226_2 := (HB.out.cell (World.block_lt_of_cell? w _ hx226_2)).trans hx226_2
                              replace hx226_3 := (HB.out.cell (World.block_lt_of_cell? w _ hx226_3)).trans hx226_3
                              replace hx226_4 := (HB.out.cell (World.block_lt_of_cell? w _ hx226_4)).trans hx226_4
                              replace hx226_5 := (HB.out.cell (World.block_lt_of_cell? w _ hx226_5)).trans hx226_5
                              replace hx226_6 := (HB.out.cell (World.block_lt_of_cell? w _ hx226_6)).trans hx226_6
                              replace hx226_7 := (HB.out.cell (World.block_lt_of_cell? w _ hx226_7)).trans hx226_7
                              replace hx226_8 := (HB.out.cell (World.block_lt_of_cell? w _ hx226_8)).trans hx226_8
                              replace p226 := eq_true p226
                              replace q226 := eq_true q226
                              go_wp2_with (first | ((with_reducible refine gate_callee (f := 77) rfl ?_); refine goesL_ (some 31) rfl rfl Try.func77 (by kernel_rfl) rfl #[.agg #[.string ((rd_T109 l0 x4_1).f0), .string ((rd_T109 l0 x4_1).f1), .string ((rd_T109 l0 x4_1).f2), .bool ((rd_T109 l0 x4_1).f3), .string ((rd_T109 l0 x4_1).f4), .string ((rd_T109 l0 x4_1).f5), .string ((rd_T109 l0 x4_1).f6), .string ((rd_T109 l0 x4_1).f7), .bool ((rd_T109 l0 x4_1).f8)]] rfl (by (try simp only [List.map_toArray, List.map_cons, List.map_nil]); first | done | rfl | (simp only [List.length_drop, List.length_take]; rfl)) ?_; (with_reducible refine (tripartiteref07_text.calls ((rd_T109 l0 x4_1).f0) ((rd_T109 l0 x4_1).f1) ((rd_T109 l0 x4_1).f2) ((rd_T109 l0 x4_1).f3) ((rd_T109 l0 x4_1).f4) ((rd_T109 l0 x4_1).f5) ((rd_T109 l0 x4_1).f6) ((rd_T109 l0 x4_1).f7) ((rd_T109 l0 x4_1).f8) true _ A13.out).mono ?_); rintro e w28 ⟨rfl, hb⟩; refine ⟨_, rfl, ?_⟩; have n0_ := Aside0.mk (Kd.R_below (by (with_reducible repeat (first | apply Kd.R_alloc | apply Kd.R_drewN | apply Kd.R_drew)); exact HO_3.out) hb); have n1_ := Aside0.mk (below_step (by repeat (first | (with_reducible first | exact HB.out | apply below_alloc | apply pw_below_drewN | apply below_drew1) | exact HB.out)) hb); clear HO_3; clear HB; have HO_3 := n0_; have HB := n1_; clear n0_ n1_; (try clear hb); (try clear hb2); (try clear hk); (try clear hi); have p228 : 0 ≤ ((ji16) : Int) := of_decide_eq_true (by first | (with_reducible assumption) | assumption); have q228 : (ji16) < (x3_1.length : Int) := of_decide_eq_true (by first | (with_reducible assumption) | assumption); obtain ⟨ad228, e228, hx228_0, hx228_1, hx228_2, hx228_3, hx228_4, hx228_5, hx228_6, hx228_7, hx228_8⟩ := at_T109 (Kd.R_reads' HO_3.out).2.2 (ji16) p228 q228; cases e228; replace p228 := eq_true p228; replace q228 := eq_true q228) | (go_at_call 77; (with_reducible refine (tripartiteref07_text.calls ((rd_T109 x3_1 (ji16)).f0) ((rd_T109 x3_1 (ji16)).f1) ((rd_T109 x3_1 (ji16)).f2) ((rd_T109 x3_1 (ji16)).f3) ((rd_T109 x3_1 (ji16)).f4) ((rd_T109 x3_1 (ji16)).f5) ((rd_T109 x3_1 (ji16)).f6) ((rd_T109 x3_1 (ji16)).f7) ((rd_T109 x3_1 (ji16)).f8) false _ A19.out).mono ?_); rintro e w29 ⟨rfl, hb⟩; have n0_ := Aside0.mk (Kd.R_below (by (with_reducible repeat (first | apply Kd.R_alloc | apply Kd.R_drewN | apply Kd.R_drew)); exact HO_3.out) hb); have n1_ := Aside0.mk (below_step (by repeat (first | (with_reducible first | exact HB.out | apply below_alloc | apply pw_below_drewN | apply below_drew1) | exact HB.out)) hb); clear HO_3; clear HB; have HO_3 := n0_; have HB := n1_; clear n0_ n1_; (try clear hb); (try clear hb2); (try clear hk); (try clear hi); have p233 : 0 ≤ (x4_1 : Int) := of_decide_eq_true (by first | (with_reducible assumption) | assumption); have q233 : x4_1 < (l0.length : Int) := of_decide_eq_true (by first | (with_reducible assumption) | assumption); obtain ⟨ad233, e233, hx233_0, hx233_1, hx233_2, hx233_3, hx233_4, hx233_5, hx233_6, hx233_7, hx233_8⟩ := at_T109 HR0.out x4_1 p233 q233; obtain rfl : ad226 = ad233 := (by injection e233); replace hx233_0 := (HB.out.cell (World.block_lt_of_cell? w _ hx233_0)).trans hx233_0; replace hx233_1 := (HB.out.cell (World.block_lt_of_cell? w _ hx233_1)).trans hx233_1; replace hx233_2 := (HB.out.cell (World.block_lt_of_cell? w _ hx233_2)).trans hx233_2; replace hx233_3 := (HB.out.cell (World.block_lt_of_cell? w _ hx233_3)).trans hx233_3; replace hx233_4 := (HB.out.cell (World.block_lt_of_cell? w _ hx233_4)).trans hx233_4; replace hx233_5 := (HB.out.cell (World.block_lt_of_cell? w _ hx233_5)).trans hx233_5; replace hx233_6 := (HB.out.cell (World.block_lt_of_cell? w _ hx233_6)).trans hx233_6; replace hx233_7 := (HB.out.cell (World.block_lt_of_cell? w _ hx233_7)).trans hx233_7; replace hx233_8 := (HB.out.cell (World.block_lt_of_cell? w _ hx233_8)).trans hx233_8; replace p233 := eq_true p233; replace q233 := eq_true q233) | ((with_reducible refine gate_builtin (b := .append) (xs := #[.tmp 61, .tmp 66]) rfl ?_); at_builtin; refine Kd.R_append k109 (w0 := w) w.heap.size rfl (.tmp 61) (.tmp 66) 26 109 (.agg #[(.string ⟨#[]⟩), (.string ⟨#[]⟩), (.string ⟨#[]⟩), (.bool false), (.string ⟨#[]⟩), (.string ⟨#[]⟩), (.string ⟨#[]⟩), (.string ⟨#[]⟩), (.bool false)]) 128 rfl Try.underlying26 info109 rfl (by decide) (by omega) (.slice (some ad228) x3_1.length co4) x3_1 (⟨(rd_T109 l0 x4_1).f0, (rd_T109 l0 x4_1).f1, (rd_T109 l0 x4_1).f2, (rd_T109 l0 x4_1).f3, (rd_T109 l0 x4_1).f4, (rd_T109 l0 x4_1).f5, (rd_T109 l0 x4_1).f6, (rd_T109 l0 x4_1).f7, (rd_T109 l0 x4_1).f8⟩ : S109) [.string ((rd_T109 l0 x4_1).f0), .string ((rd_T109 l0 x4_1).f1), .string ((rd_T109 l0 x4_1).f2), .bool ((rd_T109 l0 x4_1).f3), .string ((rd_T109 l0 x4_1).f4), .string ((rd_T109 l0 x4_1).f5), .string ((rd_T109 l0 x4_1).f6), .string ((rd_T109 l0 x4_1).f7), .bool ((rd_T109 l0 x4_1).f8)] (fun _ => True) (fun _ => False) rfl rfl ?aP (fun _ hk => hk.elim) ?aF ?aO ?aB ?aS ?aL ?_; (case aP => exact k109_mkM _ _ _ (⟨(rd_T109 l0 x4_1).f0, (rd_T109 l0 x4_1).f1, (rd_T109 l0 x4_1).f2, (rd_T109 l0 x4_1).f3, (rd_T109 l0 x4_1).f4, (rd_T109 l0 x4_1).f5, (rd_T109 l0 x4_1).f6, (rd_T109 l0 x4_1).f7, (rd_T109 l0 x4_1).f8⟩ : S109)); (case aB => exact (by repeat (first | (with_reducible first | exact HB.out | apply below_alloc | apply pw_below_drewN | apply below_drew1) | exact HB.out))); (case aF => exact (fun _ _ => trivial)); (case aO => exact (by (with_reducible repeat (first | apply Kd.R_alloc | apply Kd.R_drewN | apply Kd.R_drew)); exact HO_3.out)); (case aS => exact (below_size (by repeat (first | (with_reducible first | exact HB.out | apply below_alloc | apply pw_below_drewN | apply below_drew1) | exact HB.out)))); (case aL => have := LMc27.out; omega); intro v235 w30 ho hb hg hat; rw [← Ny234.out] at ho; have n0_ := Aside0.mk (hb); have n1_ := Aside0.mk (ho); clear HB; clear HO_3; have HB := n0_; have HO236 := n1_; clear n0_ n1_; clear ho hb hg hat))
                              go_roundg kj2
                              case measure => have := HK1.out; have := HJ2.out; omega
                              case rel => exact ⟨(y234), (wrap64 (x4_1 + 1)), (by first | rfl | (simp; done) | (simp [*]; done)), H', ⟨by have := HK1.out; have := HJ2.out; omega⟩, ⟨by (with_reducible repeat (first | apply Kd.R_alloc | apply Kd.R_drewN | apply Kd.R_drew)); exact HO236.out⟩, ⟨by repeat (first | (with_reducible first | exact HB.out | apply below_alloc | apply pw_below_drewN | apply below_drew1) | exact HB.out)⟩⟩
                            · rw [if_neg c27] at H
                              exact absurd H (by simp)
                        · rw [if_neg c18] at H
                          exact absurd H (by simp)
                      · rw [if_neg c17] at H
                        exact absurd H (by simp)
                    · rw [if_neg c15] at H
                      have c15b0 : decide (0 < (x3_1.length : Int)) = false := decide_eq_false c15
                      have c15b1 : decide (0 < x3_1.length) = false := decide_eq_false (by omega)
                      clear c15
                      by_cases c31 : x3_1.length < 1099511627776
                      · rw [if_pos c31] at H
                        have LMc31 := Aside0.mk c31
                        clear c31
                        obtain ⟨y238, hy238⟩ : ∃ y_ : List (S109), y_ = (x3_1 ++ [(⟨(rd_T109 l0 x4_1).f0, (rd_T109 l0 x4_1).f1, (rd_T109 l0 x4_1).f2, (rd_T109 l0 x4_1).f3, (rd_T109 l0 x4_1).f4, (rd_T109 l0 x4_1).f5, (rd_T109 l0 x4_1).f6, (rd_T109 l0 x4_1).f7, (rd_T109 l0 x4_1).f8⟩ : S109)]) := ⟨_, rfl⟩
                        replace H : (tripartiteref07_Of.l0 kj2 l0 y238 (wrap64 (x4_1 + 1))) = some r := by first | (rw [hy238]; with_reducible exact H) | (have H2_ := (Option.bind_some _ _).symm.trans H; rw [hy238]; with_reducible exact H2_) | (have H2_ := (Option.bind_some _ _).symm.trans H; with_reducible exact H2_) | with_reducible exact H | (rw [hy238]; exact H) | exact H
                        have Ny238 := Aside0.mk hy238
                        clear hy238
                        have H' := Aside0.mk H
                        clear H
                        have p226 : 0 ≤ (x4_1 : Int) := of_decide_eq_true (by first | (with_reducible assumption) | assumption)
                        have q226 : x4_1 < (l0.length : Int) := of_decide_eq_true (by first | (with_reducible assumption) | assumption)
                        obtain ⟨ad226, e226, hx226_0, hx226_1, hx226_2, hx226_3, hx226_4, hx226_5, hx226_6, hx226_7, hx226_8⟩ := at_T109 HR0.out x4_1 p226 q226
                        cases e226
                        replace hx226_0 := (HB.out.cell (World.block_lt_of_cell? w _ hx226_0)).trans hx226_0
                        replace hx226_1 := (HB.out.cell (World.block_lt_of_cell? w _ hx226_1)).trans hx226_1
                        replace hx226_2 := (HB.out.cell (World.block_lt_of_cell? w _ hx226_2)).trans hx226_2
                        replace hx226_3 := (HB.out.cell (World.block_lt_of_cell? w _ hx226_3)).trans hx226_3
                        replace hx226_4 := (HB.out.cell (World.block_lt_of_cell? w _ hx226_4)).trans hx226_4
                        replace hx226_5 := (HB.out.cell (World.block_lt_of_cell? w _ hx226_5)).trans hx226_5
                        replace hx226_6 := (HB.out.cell (World.block_lt_of_cell? w _ hx226_6)).trans hx226_6
                        replace hx226_7 := (HB.out.cell (World.block_lt_of_cell? w _ hx226_7)).trans hx226_7
                        replace hx226_8 := (HB.out.cell (World.block_lt_of_cell? w _ hx226_8)).trans hx226_8
                        replace p226 := eq_true p226
                        replace q226 := eq_true q226
                        go_wp2_with (first | ((with_reducible refine gate_callee (f := 77) rfl ?_); refine goesL_ (some 31) rfl rfl Try.func77 (by kernel_rfl) rfl #[.agg #[.string ((rd_T109 l0 x4_1).f0), .string ((rd_T109 l0 x4_1).f1), .string ((rd_T109 l0 x4_1).f2), .bool ((rd_T109 l0 x4_1).f3), .string ((rd_T109 l0 x4_1).f4), .string ((rd_T109 l0 x4_1).f5), .string ((rd_T109 l0 x4_1).f6), .string ((rd_T109 l0 x4_1).f7), .bool ((rd_T109 l0 x4_1).f8)]] rfl (by (try simp only [List.map_toArray, List.map_cons, List.map_nil]); first | done | rfl | (simp only [List.length_drop, List.length_take]; rfl)) ?_; (with_reducible refine (tripartiteref07_text.calls ((rd_T109 l0 x4_1).f0) ((rd_T109 l0 x4_1).f1) ((rd_T109 l0 x4_1).f2) ((rd_T109 l0 x4_1).f3) ((rd_T109 l0 x4_1).f4) ((rd_T109 l0 x4_1).f5) ((rd_T109 l0 x4_1).f6) ((rd_T109 l0 x4_1).f7) ((rd_T109 l0 x4_1).f8) true _ A13.out).mono ?_); rintro e w32 ⟨rfl, hb⟩; refine ⟨_, rfl, ?_⟩; have n0_ := Aside0.mk (Kd.R_below (by (with_reducible repeat (first | apply Kd.R_alloc | apply Kd.R_drewN | apply Kd.R_drew)); exact HO_3.out) hb); have n1_ := Aside0.mk (below_step (by repeat (first | (with_reducible first | exact HB.out | apply below_alloc | apply pw_below_drewN | apply below_drew1) | exact HB.out)) hb); clear HO_3; clear HB; have HO_3 := n0_; have HB := n1_; clear n0_ n1_; (try clear hb); (try clear hb2); (try clear hk); (try clear hi); have p237 : 0 ≤ (x4_1 : Int) := of_decide_eq_true (by first | (with_reducible assumption) | assumption); have q237 : x4_1 < (l0.length : Int) := of_decide_eq_true (by first | (with_reducible assumption) | assumption); obtain ⟨ad237, e237, hx237_0, hx237_1, hx237_2, hx237_3, hx237_4, hx237_5, hx237_6, hx237_7, hx237_8⟩ := at_T109 HR0.out x4_1 p237 q237; obtain rfl : ad226 = ad237 := (by injection e237); replace hx237_0 := (HB.out.cell (World.block_lt_of_cell? w _ hx237_0)).trans hx237_0; replace hx237_1 := (HB.out.cell (World.block_lt_of_cell? w _ hx237_1)).trans hx237_1; replace hx237_2 := (HB.out.cell (World.block_lt_of_cell? w _ hx237_2)).trans hx237_2; replace hx237_3 := (HB.out.cell (World.block_lt_of_cell? w _ hx237_3)).trans hx237_3; replace hx237_4 := (HB.out.cell (World.block_lt_of_cell? w _ hx237_4)).trans hx237_4; replace hx237_5 := (HB.out.cell (World.block_lt_of_cell? w _ hx237_5)).trans hx237_5; replace hx237_6 := (HB.out.cell (World.block_lt_of_cell? w _ hx237_6)).trans hx237_6; replace hx237_7 := (HB.out.cell (World.block_lt_of_cell? w _ hx237_7)).trans hx237_7; replace hx237_8 := (HB.out.cell (World.block_lt_of_cell? w _ hx237_8)).trans hx237_8; replace p237 := eq_true p237; replace q237 := eq_true q237) | ((with_reducible refine gate_builtin (b := .append) (xs := #[.tmp 61, .tmp 66]) rfl ?_); at_builtin; refine Kd.R_append k109 (w0 := w) w.heap.size rfl (.tmp 61) (.tmp 66) 26 109 (.agg #[(.string ⟨#[]⟩), (.string ⟨#[]⟩), (.string ⟨#[]⟩), (.bool false), (.string ⟨#[]⟩), (.string ⟨#[]⟩), (.string ⟨#[]⟩), (.string ⟨#[]⟩), (.bool false)]) 128 rfl Try.underlying26 info109 rfl (by decide) (by omega) (.slice Ao4 x3_1.length co4) x3_1 (⟨(rd_T109 l0 x4_1).f0, (rd_T109 l0 x4_1).f1, (rd_T109 l0 x4_1).f2, (rd_T109 l0 x4_1).f3, (rd_T109 l0 x4_1).f4, (rd_T109 l0 x4_1).f5, (rd_T109 l0 x4_1).f6, (rd_T109 l0 x4_1).f7, (rd_T109 l0 x4_1).f8⟩ : S109) [.string ((rd_T109 l0 x4_1).f0), .string ((rd_T109 l0 x4_1).f1), .string ((rd_T109 l0 x4_1).f2), .bool ((rd_T109 l0 x4_1).f3), .string ((rd_T109 l0 x4_1).f4), .string ((rd_T109 l0 x4_1).f5), .string ((rd_T109 l0 x4_1).f6), .string ((rd_T109 l0 x4_1).f7), .bool ((rd_T109 l0 x4_1).f8)] (fun _ => True) (fun _ => False) rfl rfl ?aP (fun _ hk => hk.elim) ?aF ?aO ?aB ?aS ?aL ?_; (case aP => exact k109_mkM _ _ _ (⟨(rd_T109 l0 x4_1).f0, (rd_T109 l0 x4_1).f1, (rd_T109 l0 x4_1).f2, (rd_T109 l0 x4_1).f3, (rd_T109 l0 x4_1).f4, (rd_T109 l0 x4_1).f5, (rd_T109 l0 x4_1).f6, (rd_T109 l0 x4_1).f7, (rd_T109 l0 x4_1).f8⟩ : S109)); (case aB => exact (by repeat (first | (with_reducible first | exact HB.out | apply below_alloc | apply pw_below_drewN | apply below_drew1) | exact HB.out))); (case aF => exact (fun _ _ => trivial)); (case aO => exact (by (with_reducible repeat (first | apply Kd.R_alloc | apply Kd.R_drewN | apply Kd.R_drew)); exact HO_3.out)); (case aS => exact (below_size (by repeat (first | (with_reducible first | exact HB.out | apply below_alloc | apply pw_below_drewN | apply below_drew1) | exact HB.out)))); (case aL => have := LMc31.out; omega); intro v239 w33 ho hb hg hat; rw [← Ny238.out] at ho; have n0_ := Aside0.mk (hb); have n1_ := Aside0.mk (ho); clear HB; clear HO_3; have HB := n0_; have HO240 := n1_; clear n0_ n1_; clear ho hb hg hat))
                        go_roundg kj2
                        case measure => have := HK1.out; have := HJ2.out; omega
                        case rel => exact ⟨(y238), (wrap64 (x4_1 + 1)), (by first | rfl | (simp; done) | (simp [*]; done)), H', ⟨by have := HK1.out; have := HJ2.out; omega⟩, ⟨by (with_reducible repeat (first | apply Kd.R_alloc | apply Kd.R_drewN | apply Kd.R_drew)); exact HO240.out⟩, ⟨by repeat (first | (with_reducible first | exact HB.out | apply below_alloc | apply pw_below_drewN | apply below_drew1) | exact HB.out)⟩⟩
                      · rw [if_neg c31] at H
                        exact absurd H (by simp)
                  · replace c14 := Bool.eq_false_iff.mpr c14
                    subst c14
                    have H1 : (if x3_1.length < 1099511627776 then (tripartiteref07_Of.l0 kj2 l0 (x3_1 ++ [(⟨(rd_T109 l0 x4_1).f0, (rd_T109 l0 x4_1).f1, (rd_T109 l0 x4_1).f2, (rd_T109 l0 x4_1).f3, (rd_T109 l0 x4_1).f4, (rd_T109 l0 x4_1).f5, (rd_T109 l0 x4_1).f6, (rd_T109 l0 x4_1).f7, (rd_T109 l0 x4_1).f8⟩ : S109)]) (wrap64 (x4_1 + 1))) else (none)) = some r := by rw [if_neg (show ¬ (false = true) by decide)] at H; exact H
                    clear H
                    have H := H1
                    clear H1
                    by_cases c34 : x3_1.length < 1099511627776
                    · rw [if_pos c34] at H
                      have LMc34 := Aside0.mk c34
                      clear c34
                      obtain ⟨y242, hy242⟩ : ∃ y_ : List (S109), y_ = (x3_1 ++ [(⟨(rd_T109 l0 x4_1).f0, (rd_T109 l0 x4_1).f1, (rd_T109 l0 x4_1).f2, (rd_T109 l0 x4_1).f3, (rd_T109 l0 x4_1).f4, (rd_T109 l0 x4_1).f5, (rd_T109 l0 x4_1).f6, (rd_T109 l0 x4_1).f7, (rd_T109 l0 x4_1).f8⟩ : S109)]) := ⟨_, rfl⟩
                      replace H : (tripartiteref07_Of.l0 kj2 l0 y242 (wrap64 (x4_1 + 1))) = some r := by first | (rw [hy242]; with_reducible exact H) | (have H2_ := (Option.bind_some _ _).symm.trans H; rw [hy242]; with_reducible exact H2_) | (have H2_ := (Option.bind_some _ _).symm.trans H; with_reducible exact H2_) | with_reducible exact H | (rw [hy242]; exact H) | exact H
                      have Ny242 := Aside0.mk hy242
                      clear hy242
                      have H' := Aside0.mk H
                      clear H
                      have p226 : 0 ≤ (x4_1 : Int) := of_decide_eq_true (by first | (with_reducible assumption) | assumption)
                      have q226 : x4_1 < (l0.length : Int) := of_decide_eq_true (by first | (with_reducible assumption) | assumption)
                      obtain ⟨ad226, e226, hx226_0, hx226_1, hx226_2, hx226_3, hx226_4, hx226_5, hx226_6, hx226_7, hx226_8⟩ := at_T109 HR0.out x4_1 p226 q226
                      cases e226
                      replace hx226_0 := (HB.out.cell (World.block_lt_of_cell? w _ hx226_0)).trans hx226_0
                      replace hx226_1 := (HB.out.cell (World.block_lt_of_cell? w _ hx226_1)).trans hx226_1
                      replace hx226_2 := (HB.out.cell (World.block_lt_of_cell? w _ hx226_2)).trans hx226_2
                      replace hx226_3 := (HB.out.cell (World.block_lt_of_cell? w _ hx226_3)).trans hx226_3
                      replace hx226_4 := (HB.out.cell (World.block_lt_of_cell? w _ hx226_4)).trans hx226_4
                      replace hx226_5 := (HB.out.cell (World.block_lt_of_cell? w _ hx226_5)).trans hx226_5
                      replace hx226_6 := (HB.out.cell (World.block_lt_of_cell? w _ hx226_6)).trans hx226_6
                      replace hx226_7 := (HB.out.cell (World.block_lt_of_cell? w _ hx226_7)).trans hx226_7
                      replace hx226_8 := (HB.out.cell (World.block_lt_of_cell? w _ hx226_8)).trans hx226_8
                      replace p226 := eq_true p226
                      replace q226 := eq_true q226
                      go_wp2_with (first | ((with_reducible refine gate_callee (f := 77) rfl ?_); refine goesL_ (some 31) rfl rfl Try.func77 (by kernel_rfl) rfl #[.agg #[.string ((rd_T109 l0 x4_1).f0), .string ((rd_T109 l0 x4_1).f1), .string ((rd_T109 l0 x4_1).f2), .bool ((rd_T109 l0 x4_1).f3), .string ((rd_T109 l0 x4_1).f4), .string ((rd_T109 l0 x4_1).f5), .string ((rd_T109 l0 x4_1).f6), .string ((rd_T109 l0 x4_1).f7), .bool ((rd_T109 l0 x4_1).f8)]] rfl (by (try simp only [List.map_toArray, List.map_cons, List.map_nil]); first | done | rfl | (simp only [List.length_drop, List.length_take]; rfl)) ?_; (with_reducible refine (tripartiteref07_text.calls ((rd_T109 l0 x4_1).f0) ((rd_T109 l0 x4_1).f1) ((rd_T109 l0 x4_1).f2) ((rd_T109 l0 x4_1).f3) ((rd_T109 l0 x4_1).f4) ((rd_T109 l0 x4_1).f5) ((rd_T109 l0 x4_1).f6) ((rd_T109 l0 x4_1).f7) ((rd_T109 l0 x4_1).f8) false _ A13.out).mono ?_); rintro e w35 ⟨rfl, hb⟩; refine ⟨_, rfl, ?_⟩; have n0_ := Aside0.mk (Kd.R_below (by (with_reducible repeat (first | apply Kd.R_alloc | apply Kd.R_drewN | apply Kd.R_drew)); exact HO_3.out) hb); have n1_ := Aside0.mk (below_step (by repeat (first | (with_reducible first | exact HB.out | apply below_alloc | apply pw_below_drewN | apply below_drew1) | exact HB.out)) hb); clear HO_3; clear HB; have HO_3 := n0_; have HB := n1_; clear n0_ n1_; (try clear hb); (try clear hb2); (try clear hk); (try clear hi); have p241 : 0 ≤ (x4_1 : Int) := of_decide_eq_true (by first | (with_reducible assumption) | assumption); have q241 : x4_1 < (l0.length : Int) := of_decide_eq_true (by first | (with_reducible assumption) | assumption); obtain ⟨ad241, e241, hx241_0, hx241_1, hx241_2, hx241_3, hx241_4, hx241_5, hx241_6, hx241_7, hx241_8⟩ := at_T109 HR0.out x4_1 p241 q241; obtain rfl : ad226 = ad241 := (by injection e241); replace hx241_0 := (HB.out.cell (World.block_lt_of_cell? w _ hx241_0)).trans hx241_0; replace hx241_1 := (HB.out.cell (World.block_lt_of_cell? w _ hx241_1)).trans hx241_1; replace hx241_2 := (HB.out.cell (World.block_lt_of_cell? w _ hx241_2)).trans hx241_2; replace hx241_3 := (HB.out.cell (World.block_lt_of_cell? w _ hx241_3)).trans hx241_3; replace hx241_4 := (HB.out.cell (World.block_lt_of_cell? w _ hx241_4)).trans hx241_4; replace hx241_5 := (HB.out.cell (World.block_lt_of_cell? w _ hx241_5)).trans hx241_5; replace hx241_6 := (HB.out.cell (World.block_lt_of_cell? w _ hx241_6)).trans hx241_6; replace hx241_7 := (HB.out.cell (World.block_lt_of_cell? w _ hx241_7)).trans hx241_7; replace hx241_8 := (HB.out.cell (World.block_lt_of_cell? w _ hx241_8)).trans hx241_8; replace p241 := eq_true p241; replace q241 := eq_true q241) | ((with_reducible refine gate_builtin (b := .append) (xs := #[.tmp 61, .tmp 66]) rfl ?_); at_builtin; refine Kd.R_append k109 (w0 := w) w.heap.size rfl (.tmp 61) (.tmp 66) 26 109 (.agg #[(.string ⟨#[]⟩), (.string ⟨#[]⟩), (.string ⟨#[]⟩), (.bool false), (.string ⟨#[]⟩), (.string ⟨#[]⟩), (.string ⟨#[]⟩), (.string ⟨#[]⟩), (.bool false)]) 128 rfl Try.underlying26 info109 rfl (by decide) (by omega) (.slice Ao4 x3_1.length co4) x3_1 (⟨(rd_T109 l0 x4_1).f0, (rd_T109 l0 x4_1).f1, (rd_T109 l0 x4_1).f2, (rd_T109 l0 x4_1).f3, (rd_T109 l0 x4_1).f4, (rd_T109 l0 x4_1).f5, (rd_T109 l0 x4_1).f6, (rd_T109 l0 x4_1).f7, (rd_T109 l0 x4_1).f8⟩ : S109) [.string ((rd_T109 l0 x4_1).f0), .string ((rd_T109 l0 x4_1).f1), .string ((rd_T109 l0 x4_1).f2), .bool ((rd_T109 l0 x4_1).f3), .string ((rd_T109 l0 x4_1).f4), .string ((rd_T109 l0 x4_1).f5), .string ((rd_T109 l0 x4_1).f6), .string ((rd_T109 l0 x4_1).f7), .bool ((rd_T109 l0 x4_1).f8)] (fun _ => True) (fun _ => False) rfl rfl ?aP (fun _ hk => hk.elim) ?aF ?aO ?aB ?aS ?aL ?_; (case aP => exact k109_mkM _ _ _ (⟨(rd_T109 l0 x4_1).f0, (rd_T109 l0 x4_1).f1, (rd_T109 l0 x4_1).f2, (rd_T109 l0 x4_1).f3, (rd_T109 l0 x4_1).f4, (rd_T109 l0 x4_1).f5, (rd_T109 l0 x4_1).f6, (rd_T109 l0 x4_1).f7, (rd_T109 l0 x4_1).f8⟩ : S109)); (case aB => exact (by repeat (first | (with_reducible first | exact HB.out | apply below_alloc | apply pw_below_drewN | apply below_drew1) | exact HB.out))); (case aF => exact (fun _ _ => trivial)); (case aO => exact (by (with_reducible repeat (first | apply Kd.R_alloc | apply Kd.R_drewN | apply Kd.R_drew)); exact HO_3.out)); (case aS => exact (below_size (by repeat (first | (with_reducible first | exact HB.out | apply below_alloc | apply pw_below_drewN | apply below_drew1) | exact HB.out)))); (case aL => have := LMc34.out; omega); intro v243 w36 ho hb hg hat; rw [← Ny242.out] at ho; have n0_ := Aside0.mk (hb); have n1_ := Aside0.mk (ho); clear HB; clear HO_3; have HB := n0_; have HO244 := n1_; clear n0_ n1_; clear ho hb hg hat))
                      go_roundg kj2
                      case measure => have := HK1.out; have := HJ2.out; omega
                      case rel => exact ⟨(y242), (wrap64 (x4_1 + 1)), (by first | rfl | (simp; done) | (simp [*]; done)), H', ⟨by have := HK1.out; have := HJ2.out; omega⟩, ⟨by (with_reducible repeat (first | apply Kd.R_alloc | apply Kd.R_drewN | apply Kd.R_drew)); exact HO244.out⟩, ⟨by repeat (first | (with_reducible first | exact HB.out | apply below_alloc | apply pw_below_drewN | apply below_drew1) | exact HB.out)⟩⟩
                    · rw [if_neg c34] at H
                      exact absurd H (by simp)
                · rw [if_neg c12] at H
                  exact absurd H (by simp)
              · rw [if_neg c11] at H
                exact absurd H (by simp)
      · rw [if_neg c2] at H
        have c2b0 : decide (x4_1 < (l0.length : Int)) = false := decide_eq_false c2
        clear c2
        obtain rfl := Option.some.inj H
        go_wp2
        go_ret
        exact ⟨_, by first | rfl | (simp [errW_none, errW_some] <;> rfl) | (simp [*, errW_none, errW_some] <;> rfl), by (with_reducible repeat (first | apply Kd.R_alloc | apply Kd.R_drewN | apply Kd.R_drew)); exact HO_3.out, by repeat (first | (with_reducible first | exact HB.out | apply below_alloc | apply pw_below_drewN | apply below_drew1) | exact HB.out)⟩
end Go.Proofs.Ytfiamddinkokbaa.F
end

section
set_option linter.unusedVariables false
set_option linter.unusedSimpArgs false
namespace Go.Proofs.Ytfiamddinkokbaa.F
open Go.RowKit Go.Proofs.YtfiamddinkokbaaW.PrintWords Go.Proofs.YtfiamddinkokbaaW.PrintLast Go.Proofs.YtfiamddinkokbaaW.PrintMore
attribute [local go_sem] max2_int min2_int max_two min_two max_three min_three max_four min_four
set_option linter.unusedVariables false
set_option linter.unusedSimpArgs false
attribute [local go_sem high] eqA106
def doc_Part.l0 : Nat → List (S106) → List (S106) → Int → Int → Option (Bool)
  | 0, _, _, _, _ => none
  | k + 1, x0, x1, x12, x13 => if x13 < x12 then (if 0 ≤ x13 then (if x13 < (x0.length : Int) then (if x13 < (x1.length : Int) then (if ((!((((rd_T106 x0 x13).f0.f0).toList) == (((rd_T106 x1 x13).f0.f0).toList)) || (!((((rd_T106 x0 x13).f0.f1).toList) == (((rd_T106 x1 x13).f0.f1).toList)) || (!((((rd_T106 x0 x13).f0.f2).toList) == (((rd_T106 x1 x13).f0.f2).toList))))) || (!(((rd_T106 x0 x13).f1) == ((rd_T106 x1 x13).f1)) || (!((((rd_T106 x0 x13).f2).toList) == (((rd_T106 x1 x13).f2).toList)) || (!((((rd_T106 x0 x13).f3).toList) == (((rd_T106 x1 x13).f3).toList)) || (!((((rd_T106 x0 x13).f4).toList) == (((rd_T106 x1 x13).f4).toList)) || (!((((rd_T106 x0 x13).f5).toList) == (((rd_T106 x1 x13).f5).toList)) || (!(((rd_T106 x0 x13).f6) == ((rd_T106 x1 x13).f6))))))))) = true then (some false) else (doc_Part.l0 k x0 x1 x12 (wrap64 (x13 + 1)))) else (none)) else (none)) else (none)) else (some true)
def doc_Part.f (k : Nat) (l0 : List (S106)) (l1 : List (S106)) : Option (Bool) := if (l0.length : Int) = (l1.length : Int) then (doc_Part.l0 k l0 l1 (l0.length : Int) 0) else (some false)
theorem doc_Part.mono_l : ∀ k, (∀ y0 y1 y2 y3, LeO (doc_Part.l0 k y0 y1 y2 y3) (doc_Part.l0 (k + 1) y0 y1 y2 y3))
  | 0 => fun _ _ _ _ r h => by simp [doc_Part.l0] at h
  | k + 1 => by
    have ih0 := doc_Part.mono_l k
    · intro y0 y1 y2 y3
      unfold doc_Part.l0
      repeat' first
      | (with_reducible exact ih0 _ _ _ _)
      | (with_reducible exact LeO.refl _)
      | (with_reducible exact LeO.none _)
      | (with_reducible refine LeO.ite ?_ ?_)
      | (with_reducible refine LeO.bind ?_ (fun _ => ?_))
      | exact ih0 _ _ _ _
      | exact LeO.none _
      | refine LeO.ite ?_ ?_
      | refine LeO.bind ?_ (fun _ => ?_)
theorem doc_Part.mono : ∀ a0 a1 k, LeO (doc_Part.f k a0 a1) (doc_Part.f (k + 1) a0 a1) := by
  intro a0 a1 k
  have ih0 := doc_Part.mono_l k
  unfold doc_Part.f
  repeat' first
      | (with_reducible exact ih0 _ _ _ _)
      | (with_reducible exact LeO.refl _)
      | (with_reducible exact LeO.none _)
      | (with_reducible refine LeO.ite ?_ ?_)
      | (with_reducible refine LeO.bind ?_ (fun _ => ?_))
      | exact ih0 _ _ _ _
      | exact LeO.none _
      | refine LeO.ite ?_ ?_
      | refine LeO.bind ?_ (fun _ => ?_)
set_option maxHeartbeats 8000000 in
set_option maxRecDepth 100000 in
theorem doc_Part.calls (k : Nat) (A0 : Option Addr) (c0 : Nat) (l0 : List (S106)) (A1 : Option Addr) (c1 : Nat) (l1 : List (S106)) (r : Bool) (w : World) (hr0 : Kd.C k106 w A0 l0.length l0) (hc0 : l0.length ≤ c0) (hr1 : Kd.C k106 w A1 l1.length l1) (hc1 : l1.length ≤ c1) (h : doc_Part.f k l0 l1 = some r) :
    Calls Try.prog 78 #[.slice A0 l0.length c0, .slice A1 l1.length c1] w fun e w' => e = .returned (.bool r) ∧ Drawn0 w w' := by
  have hu106 := Try.underlying106
  have HR0 := Aside0.mk hr0
  have HC0 := Aside0.mk hc0
  clear hr0 hc0
  have HR1 := Aside0.mk hr1
  have HC1 := Aside0.mk hc1
  clear hr1 hc1
  have H : (if (l0.length : Int) = (l1.length : Int) then (doc_Part.l0 k l0 l1 (l0.length : Int) 0) else (some false)) = some r := h
  clear h
  by_cases c3 : (l0.length : Int) = (l1.length : Int)
  · rw [if_pos c3] at H
    have c3b0 : ((l0.length : Int) == (l1.length : Int)) = true := beq_iff_eq.mpr c3
    have c3b1 : ((l0.length : Int) != (l1.length : Int)) = false := bne_eq_false_iff_eq.mpr c3
    have c3b2 : (l0.length == l1.length) = true := by first | simpa using c3 | (simp at c3 ⊢; omega)
    clear c3
    have H' := Aside0.mk H
    clear H
    go_enter Try.func78, Try.ntmps78
    go_wp2
    repeat (go_quiet (fail); try go_wp2)
    go_loopg [13] k (fun kq v13 w' => ∃ (x13_1 : Int), v13 = .int .i64 x13_1 ∧ Aside0 (doc_Part.l0 kq l0 l1 (l0.length : Int) x13_1 = some r) ∧ Aside0 (kq ≤ k) ∧ Drawn0 w w')
    case atStart => exact ⟨(0), (by first | rfl | (simp; done) | (simp [*]; done)), H', ⟨Nat.le_refl _⟩, by repeat (first | exact Drawn0.refl _ | apply Drawn0.step)⟩
    case round =>
      clear H'
      try clear c1
      try clear p2
      try clear c3
      try clear c3b0
      try clear c3b1
      try clear c3b2
      obtain ⟨x13_1, rfl, HA, HK1, ⟨m1, rfl⟩⟩ := hrel
      cases gk with
      | zero => exact absurd HA.out (by simp [doc_Part.l0])
      | succ k1 =>
        have H := HA.out
        clear HA
        simp only [doc_Part.l0] at H
        by_cases c4 : x13_1 < (l0.length : Int)
        · rw [if_pos c4] at H
          have c4b0 : decide (x13_1 < (l0.length : Int)) = true := decide_eq_true c4
          clear c4
          by_cases c5 : 0 ≤ x13_1
          · rw [if_pos c5] at H
            have c5b0 : decide (0 ≤ x13_1) = true := decide_eq_true c5
            clear c5
            by_cases c6 : x13_1 < (l0.length : Int)
            · rw [if_pos c6] at H
              have c6b0 : decide (x13_1 < (l0.length : Int)) = true := decide_eq_true c6
              clear c6
              by_cases c7 : x13_1 < (l1.length : Int)
              · rw [if_pos c7] at H
                have c7b0 : decide (x13_1 < (l1.length : Int)) = true := decide_eq_true c7
                clear c7
                by_cases c8 : ((!((((rd_T106 l0 x13_1).f0.f0).toList) == (((rd_T106 l1 x13_1).f0.f0).toList)) || (!((((rd_T106 l0 x13_1).f0.f1).toList) == (((rd_T106 l1 x13_1).f0.f1).toList)) || (!((((rd_T106 l0 x13_1).f0.f2).toList) == (((rd_T106 l1 x13_1).f0.f2).toList))))) || (!(((rd_T106 l0 x13_1).f1) == ((rd_T106 l1 x13_1).f1)) || (!((((rd_T106 l0 x13_1).f2).toList) == (((rd_T106 l1 x13_1).f2).toList)) || (!((((rd_T106 l0 x13_1).f3).toList) == (((rd_T106 l1 x13_1).f3).toList)) || (!((((rd_T106 l0 x13_1).f4).toList) == (((rd_T106 l1 x13_1).f4).toList)) || (!((((rd_T106 l0 x13_1).f5).toList) == (((rd_T106 l1 x13_1).f5).toList)) || (!(((rd_T106 l0 x13_1).f6) == ((rd_T106 l1 x13_1).f6))))))))) = true
                · rw [if_pos c8] at H
                  have c8b0 : ((!((((rd_T106 l0 x13_1).f0.f0).toList) == (((rd_T106 l1 x13_1).f0.f0).toList)) || (!((((rd_T106 l0 x13_1).f0.f1).toList) == (((rd_T106 l1 x13_1).f0.f1).toList)) || (!((((rd_T106 l0 x13_1).f0.f2).toList) == (((rd_T106 l1 x13_1).f0.f2).toList))))) || (!(((rd_T106 l0 x13_1).f1) == ((rd_T106 l1 x13_1).f1)) || (!((((rd_T106 l0 x13_1).f2).toList) == (((rd_T106 l1 x13_1).f2).toList)) || (!((((rd_T106 l0 x13_1).f3).toList) == (((rd_T106 l1 x13_1).f3).toList)) || (!((((rd_T106 l0 x13_1).f4).toList) == (((rd_T106 l1 x13_1).f4).toList)) || (!((((rd_T106 l0 x13_1).f5).toList) == (((rd_T106 l1 x13_1).f5).toList)) || (!(((rd_T106 l0 x13_1).f6) == ((rd_T106 l1 x13_1).f6))))))))) = true := c8
                  clear c8
                  obtain rfl := Option.some.inj H
                  have p245 : 0 ≤ (x13_1 : Int) := of_decide_eq_true (by first | (with_reducible assumption) | assumption)
                  have q245 : x13_1 < (l0.length : Int) := of_decide_eq_true (by first | (with_reducible assumption) | assumption)
                  obtain ⟨ad245, e245, hx245_0, hx245_1, hx245_2, hx245_3, hx245_4, hx245_5, hx245_6, hx245_7, hx245_8⟩ := at_T106 HR0.out x13_1 p245 q245
                  cases e245
                  replace p245 := eq_true p245
                  replace q245 := eq_true q245
                  have p246 : 0 ≤ (x13_1 : Int) := of_decide_eq_true (by first | (with_reducible assumption) | assumption)
                  have q246 : x13_1 < (l1.length : Int) := of_decide_eq_true (by first | (with_reducible assumption) | assumption)
                  obtain ⟨ad246, e246, hx246_0, hx246_1, hx246_2, hx246_3, hx246_4, hx246_5, hx246_6, hx246_7, hx246_8⟩ := at_T106 HR1.out x13_1 p246 q246
                  cases e246
                  replace p246 := eq_true p246
                  replace q246 := eq_true q246
                  go_wp2
                  repeat (go_quiet (fail); try go_wp2)
                  go_ret
                  exact ⟨by first | rfl | (simp; done) | (simp [*]; done), by repeat (first | exact Drawn0.refl _ | apply Drawn0.step)⟩
                · rw [if_neg c8] at H
                  have c8b0 : ((!((((rd_T106 l0 x13_1).f0.f0).toList) == (((rd_T106 l1 x13_1).f0.f0).toList)) || (!((((rd_T106 l0 x13_1).f0.f1).toList) == (((rd_T106 l1 x13_1).f0.f1).toList)) || (!((((rd_T106 l0 x13_1).f0.f2).toList) == (((rd_T106 l1 x13_1).f0.f2).toList))))) || (!(((rd_T106 l0 x13_1).f1) == ((rd_T106 l1 x13_1).f1)) || (!((((rd_T106 l0 x13_1).f2).toList) == (((rd_T106 l1 x13_1).f2).toList)) || (!((((rd_T106 l0 x13_1).f3).toList) == (((rd_T106 l1 x13_1).f3).toList)) || (!((((rd_T106 l0 x13_1).f4).toList) == (((rd_T106 l1 x13_1).f4).toList)) || (!((((rd_T106 l0 x13_1).f5).toList) == (((rd_T106 l1 x13_1).f5).toList)) || (!(((rd_T106 l0 x13_1).f6) == ((rd_T106 l1 x13_1).f6))))))))) = false := by simpa using c8
                  clear c8
                  have H' := Aside0.mk H
                  clear H
                  have p245 : 0 ≤ (x13_1 : Int) := of_decide_eq_true (by first | (with_reducible assumption) | assumption)
                  have q245 : x13_1 < (l0.length : Int) := of_decide_eq_true (by first | (with_reducible assumption) | assumption)
                  obtain ⟨ad245, e245, hx245_0, hx245_1, hx245_2, hx245_3, hx245_4, hx245_5, hx245_6, hx245_7, hx245_8⟩ := at_T106 HR0.out x13_1 p245 q245
                  cases e245
                  replace p245 := eq_true p245
                  replace q245 := eq_true q245
                  have p246 : 0 ≤ (x13_1 : Int) := of_decide_eq_true (by first | (with_reducible assumption) | assumption)
                  have q246 : x13_1 < (l1.length : Int) := of_decide_eq_true (by first | (with_reducible assumption) | assumption)
                  obtain ⟨ad246, e246, hx246_0, hx246_1, hx246_2, hx246_3, hx246_4, hx246_5, hx246_6, hx246_7, hx246_8⟩ := at_T106 HR1.out x13_1 p246 q246
                  cases e246
                  replace p246 := eq_true p246
                  replace q246 := eq_true q246
                  go_wp2
                  repeat (go_quiet (fail); try go_wp2)
                  go_roundg k1
                  case measure => have := HK1.out; omega
                  case rel => exact ⟨(wrap64 (x13_1 + 1)), (by first | rfl | (simp; done) | (simp [*]; done)), H', ⟨by have := HK1.out; omega⟩, by repeat (first | exact Drawn0.refl _ | apply Drawn0.step)⟩
              · rw [if_neg c7] at H
                exact absurd H (by simp)
            · rw [if_neg c6] at H
              exact absurd H (by simp)
          · rw [if_neg c5] at H
            exact absurd H (by simp)
        · rw [if_neg c4] at H
          have c4b0 : decide (x13_1 < (l0.length : Int)) = false := decide_eq_false c4
          clear c4
          obtain rfl := Option.some.inj H
          go_wp2
          repeat (go_quiet (fail); try go_wp2)
          go_ret
          exact ⟨by first | rfl | (simp; done) | (simp [*]; done), by repeat (first | exact Drawn0.refl _ | apply Drawn0.step)⟩
  · rw [if_neg c3] at H
    have c3b0 : ((l0.length : Int) == (l1.length : Int)) = false := beq_eq_false_iff_ne.mpr c3
    have c3b1 : ((l0.length : Int) != (l1.length : Int)) = true := bne_iff_ne.mpr c3
    have c3b2 : (l0.length == l1.length) = false := by first | simpa using c3 | (simp at c3 ⊢; omega)
    obtain rfl := Option.some.inj H
    go_enter Try.func78, Try.ntmps78
    go_wp2
    repeat (go_quiet (fail); try go_wp2)
    go_ret
    exact ⟨by first | rfl | (simp; done) | (simp [*]; done), by repeat (first | exact Drawn0.refl _ | apply Drawn0.step)⟩
end Go.Proofs.Ytfiamddinkokbaa.F
end

section
set_option linter.unusedVariables false
set_option linter.unusedSimpArgs false
namespace Go.Proofs.Ytfiamddinkokbaa.F
open Go.RowKit Go.Proofs.YtfiamddinkokbaaW.PrintWords Go.Proofs.YtfiamddinkokbaaW.PrintLast Go.Proofs.YtfiamddinkokbaaW.PrintMore
attribute [local go_sem] max2_int min2_int max_two min_two max_three min_three max_four min_four
set_option linter.unusedVariables false
set_option linter.unusedSimpArgs false
def doc_Same.f (k : Nat) (l0 : List (S106)) (l1 : List (S106)) : Option (Bool) := (doc_Part.f k l0 l1).bind fun t247 => (some t247)
theorem doc_Same.mono : ∀ a0 a1 k, LeO (doc_Same.f k a0 a1) (doc_Same.f (k + 1) a0 a1) := by
  intro a0 a1 k
  unfold doc_Same.f
  repeat' first
      | (with_reducible exact doc_Part.mono _ _ _)
      | (with_reducible exact LeO.refl _)
      | (with_reducible exact LeO.none _)
      | (with_reducible refine LeO.ite ?_ ?_)
      | (with_reducible refine LeO.bind ?_ (fun _ => ?_))
      | exact doc_Part.mono _ _ _
      | exact LeO.none _
      | refine LeO.ite ?_ ?_
      | refine LeO.bind ?_ (fun _ => ?_)
set_option maxHeartbeats 8000000 in
set_option maxRecDepth 100000 in
theorem doc_Same.calls (k : Nat) (A0 : Option Addr) (c0 : Nat) (l0 : List (S106)) (A1 : Option Addr) (c1 : Nat) (l1 : List (S106)) (r : Bool) (w : World) (hr0 : Kd.C k106 w A0 l0.length l0) (hc0 : l0.length ≤ c0) (hr1 : Kd.C k106 w A1 l1.length l1) (hc1 : l1.length ≤ c1) (h : doc_Same.f k l0 l1 = some r) :
    Calls Try.prog 28 #[.slice A0 l0.length c0, .slice A1 l1.length c1] w fun e w' => e = .returned (.bool r) ∧ Drawn0 w w' := by
  have HR0 := Aside0.mk hr0
  have HC0 := Aside0.mk hc0
  clear hr0 hc0
  have HR1 := Aside0.mk hr1
  have HC1 := Aside0.mk hc1
  clear hr1 hc1
  have H : ((doc_Part.f k l0 l1).bind fun t247 => (some t247)) = some r := h
  clear h
  replace H := Option.bind_eq_some_iff.mp H
  obtain ⟨t247, A30, H⟩ := H
  replace H : (some t247) = some r := H
  have A3 := Aside0.mk A30
  clear A30
  obtain rfl := Option.some.inj H
  go_enter Try.func28, Try.ntmps28
  go_wp2_with (first | ((with_reducible refine gate_callee (f := 78) rfl ?_); refine goesL_ (some 7) rfl rfl Try.func78 (by kernel_rfl) rfl #[.slice A0 l0.length c0, .slice A1 l1.length c1] rfl (by (try simp only [List.map_toArray, List.map_cons, List.map_nil]); first | done | rfl | (simp only [List.length_drop, List.length_take]; rfl)) ?_; (with_reducible refine (doc_Part.calls k _ _ l0 _ _ l1 t247 _ ?side1 ?side2 ?side3 ?side4 A3.out).mono ?_); (case side1 => repeat (first | exact HR0.out | (with_reducible refine Kd.C_alloc ?_ _) | (with_reducible refine Kd.C_drewN ?_ _) | (with_reducible refine Kd.C_drew ?_))); (case side2 => exact HC0.out); (case side3 => repeat (first | exact HR1.out | (with_reducible refine Kd.C_alloc ?_ _) | (with_reducible refine Kd.C_drewN ?_ _) | (with_reducible refine Kd.C_drew ?_))); (case side4 => exact HC1.out); rintro e w' ⟨rfl, ⟨nd, rfl⟩⟩; refine ⟨_, rfl, ?_⟩))
  go_ret
  exact ⟨by first | rfl | (simp; done) | (simp [*]; done), by repeat (first | exact Drawn0.refl _ | apply Drawn0.step)⟩
end Go.Proofs.Ytfiamddinkokbaa.F
end

section
set_option linter.unusedVariables false
set_option linter.unusedSimpArgs false
namespace Go.Proofs.Ytfiamddinkokbaa.F
open Go.RowKit Go.Proofs.YtfiamddinkokbaaW.PrintWords Go.Proofs.YtfiamddinkokbaaW.PrintLast Go.Proofs.YtfiamddinkokbaaW.PrintMore
attribute [local go_sem] max2_int min2_int max_two min_two max_three min_three max_four min_four
set_option linter.unusedVariables false
set_option linter.unusedSimpArgs false
def tripartitelaw07_DocJoins.j0 : Nat → List (S109) → List (S109) → Bool → Option (Bool)
  | 0, _, _, _ => none
  | k + 1, x0, x1, x14 => if x14 = true then ((tripartitelaw07_told.f k).bind fun t250 => (some t250)) else ((tripartitelaw07_To.f k x0).bind fun t251 => ((doc_Of.f k t251).bind fun t254 => ((tripartitelaw07_told.f k).bind fun t257 => (if t257 = true then ((tripartitelaw07_From.f k t254).bind fun t258 => ((tripartiteref07_Of.f k x0).bind fun t261 => ((tripartiteref07_Same.f k t258 t261).bind fun t264 => (if t264 = true then ((tripartitelaw07_From.f k t251).bind fun t265 => ((tripartiteref07_Same.f k t265 x0).bind fun t268 => (if t268 = true then ((tripartitelaw07_To.f k x1).bind fun t269 => ((doc_Same.f k t251 t269).bind fun t272 => ((tripartiteref07_Same.f k x0 x1).bind fun t273 => (if (t272 == t273) = true then ((doc_Of.f k t254).bind fun t274 => ((doc_Same.f k t274 t254).bind fun t277 => (some t277))) else (some false))))) else (some false)))) else (some false))))) else (some false)))))
def tripartitelaw07_DocJoins.f (k : Nat) (l0 : List (S109)) (l1 : List (S109)) : Option (Bool) := (tripartitelaw07_Few.f k l0).bind fun t248 => (if t248 = true then ((tripartitelaw07_Few.f k l1).bind fun t249 => (tripartitelaw07_DocJoins.j0 k l0 l1 (!t249))) else (tripartitelaw07_DocJoins.j0 k l0 l1 true))
theorem tripartitelaw07_DocJoins.mono_l : ∀ k, (∀ y0 y1 y2, LeO (tripartitelaw07_DocJoins.j0 k y0 y1 y2) (tripartitelaw07_DocJoins.j0 (k + 1) y0 y1 y2))
  | 0 => fun _ _ _ r h => by simp [tripartitelaw07_DocJoins.j0] at h
  | k + 1 => by
    have ih0 := tripartitelaw07_DocJoins.mono_l k
    · intro y0 y1 y2
      unfold tripartitelaw07_DocJoins.j0
      repeat' first
      | (with_reducible exact ih0 _ _ _)
      | (with_reducible exact doc_Of.mono _ _)
      | (with_reducible exact doc_Same.mono _ _ _)
      | (with_reducible exact tripartitelaw07_Few.mono _ _)
      | (with_reducible exact tripartitelaw07_From.mono _ _)
      | (with_reducible exact tripartitelaw07_To.mono _ _)
      | (with_reducible exact tripartitelaw07_told.mono _)
      | (with_reducible exact tripartiteref07_Of.mono _ _)
      | (with_reducible exact tripartiteref07_Same.mono _ _ _)
      | (with_reducible exact LeO.refl _)
      | (with_reducible exact LeO.none _)
      | (with_reducible refine LeO.ite ?_ ?_)
      | (with_reducible refine LeO.bind ?_ (fun _ => ?_))
      | exact ih0 _ _ _
      | exact doc_Of.mono _ _
      | exact doc_Same.mono _ _ _
      | exact tripartitelaw07_Few.mono _ _
      | exact tripartitelaw07_From.mono _ _
      | exact tripartitelaw07_To.mono _ _
      | exact tripartitelaw07_told.mono _
      | exact tripartiteref07_Of.mono _ _
      | exact tripartiteref07_Same.mono _ _ _
      | exact LeO.none _
      | refine LeO.ite ?_ ?_
      | refine LeO.bind ?_ (fun _ => ?_)
theorem tripartitelaw07_DocJoins.mono : ∀ a0 a1 k, LeO (tripartitelaw07_DocJoins.f k a0 a1) (tripartitelaw07_DocJoins.f (k + 1) a0 a1) := by
  intro a0 a1 k
  have ih0 := tripartitelaw07_DocJoins.mono_l k
  unfold tripartitelaw07_DocJoins.f
  repeat' first
      | (with_reducible exact ih0 _ _ _)
      | (with_reducible exact doc_Of.mono _ _)
      | (with_reducible exact doc_Same.mono _ _ _)
      | (with_reducible exact tripartitelaw07_Few.mono _ _)
      | (with_reducible exact tripartitelaw07_From.mono _ _)
      | (with_reducible exact tripartitelaw07_To.mono _ _)
      | (with_reducible exact tripartitelaw07_told.mono _)
      | (with_reducible exact tripartiteref07_Of.mono _ _)
      | (with_reducible exact tripartiteref07_Same.mono _ _ _)
      | (with_reducible exact LeO.refl _)
      | (with_reducible exact LeO.none _)
      | (with_reducible refine LeO.ite ?_ ?_)
      | (with_reducible refine LeO.bind ?_ (fun _ => ?_))
      | exact ih0 _ _ _
      | exact doc_Of.mono _ _
      | exact doc_Same.mono _ _ _
      | exact tripartitelaw07_Few.mono _ _
      | exact tripartitelaw07_From.mono _ _
      | exact tripartitelaw07_To.mono _ _
      | exact tripartitelaw07_told.mono _
      | exact tripartiteref07_Of.mono _ _
      | exact tripartiteref07_Same.mono _ _ _
      | exact LeO.none _
      | refine LeO.ite ?_ ?_
      | refine LeO.bind ?_ (fun _ => ?_)
set_option maxHeartbeats 8000000 in
set_option maxRecDepth 100000 in
theorem tripartitelaw07_DocJoins.calls (k : Nat) (A0 : Option Addr) (c0 : Nat) (l0 : List (S109)) (A1 : Option Addr) (c1 : Nat) (l1 : List (S109)) (r : Bool) (w : World) (hr0 : Kd.C k109 w A0 l0.length l0) (hc0 : l0.length ≤ c0) (hr1 : Kd.C k109 w A1 l1.length l1) (hc1 : l1.length ≤ c1) (h : tripartitelaw07_DocJoins.f k l0 l1 = some r) :
    Calls Try.prog 4 #[.slice A0 l0.length c0, .slice A1 l1.length c1] w fun e w' => e = .returned (.bool r) ∧ Below w.heap.size w w' := by
  have HR0 := Aside0.mk hr0
  have HC0 := Aside0.mk hc0
  clear hr0 hc0
  have HR1 := Aside0.mk hr1
  have HC1 := Aside0.mk hc1
  clear hr1 hc1
  have HB := Aside0.mk (Below.refl w.heap.size w)
  have H : ((tripartitelaw07_Few.f k l0).bind fun t248 => (if t248 = true then ((tripartitelaw07_Few.f k l1).bind fun t249 => (tripartitelaw07_DocJoins.j0 k l0 l1 (!t249))) else (tripartitelaw07_DocJoins.j0 k l0 l1 true))) = some r := h
  clear h
  have HC3 := Aside0.mk H
  clear H
  go_enter Try.func4, Try.ntmps4
  go_upto_region 1 with (fail)
  go_cut [14] (fun v14 wc => ∃ (kq : Nat) (x14_2 : Bool), v14 = .bool x14_2 ∧ Aside0 (tripartitelaw07_DocJoins.j0 kq l0 l1 x14_2 = some r) ∧ Aside0 (kq ≤ k) ∧ Aside0 (Below w.heap.size w wc))
  case first =>
    have H := HC3.out
    clear HC3
    replace H := Option.bind_eq_some_iff.mp H
    obtain ⟨t248, A40, H⟩ := H
    replace H : (if t248 = true then ((tripartitelaw07_Few.f k l1).bind fun t249 => (tripartitelaw07_DocJoins.j0 k l0 l1 (!t249))) else (tripartitelaw07_DocJoins.j0 k l0 l1 true)) = some r := H
    have A4 := Aside0.mk A40
    clear A40
    by_cases c5 : t248 = true
    · subst c5
      have H1 : ((tripartitelaw07_Few.f k l1).bind fun t249 => (tripartitelaw07_DocJoins.j0 k l0 l1 (!t249))) = some r := by rw [if_pos rfl] at H; exact H
      clear H
      have H := H1
      clear H1
      replace H := Option.bind_eq_some_iff.mp H
      obtain ⟨t249, A60, H⟩ := H
      replace H : (tripartitelaw07_DocJoins.j0 k l0 l1 (!t249)) = some r := H
      have A6 := Aside0.mk A60
      clear A60
      have H' := Aside0.mk H
      clear H
      go_wp2_with (first | ((with_reducible refine gate_callee (f := 22) rfl ?_); refine goesL_ (some 8) rfl rfl Try.func22 (by kernel_rfl) rfl #[.slice A0 l0.length c0] rfl (by (try simp only [List.map_toArray, List.map_cons, List.map_nil]); first | done | rfl | (simp only [List.length_drop, List.length_take]; rfl)) ?_; (with_reducible refine (tripartitelaw07_Few.calls k _ _ l0 true _ ?side1 ?side2 A4.out).mono ?_); (case side1 => repeat (first | exact (Kd.C_below HR0.out HB.out) | (with_reducible refine Kd.C_alloc ?_ _) | (with_reducible refine Kd.C_drewN ?_ _) | (with_reducible refine Kd.C_drew ?_))); (case side2 => exact HC0.out); rintro e w7 ⟨rfl, hb⟩; refine ⟨_, rfl, ?_⟩; have n0_ := Aside0.mk (below_step (by repeat (first | (with_reducible first | exact HB.out | apply below_alloc | apply pw_below_drewN | apply below_drew1) | exact HB.out)) hb); clear HB; have HB := n0_; clear n0_; (try clear hb); (try clear hb2); (try clear hk); (try clear hi)) | (go_at_call 22; (with_reducible refine (tripartitelaw07_Few.calls k _ _ l1 t249 _ ?side1 ?side2 A6.out).mono ?_); (case side1 => repeat (first | exact (Kd.C_below HR1.out HB.out) | (with_reducible refine Kd.C_alloc ?_ _) | (with_reducible refine Kd.C_drewN ?_ _) | (with_reducible refine Kd.C_drew ?_))); (case side2 => exact HC1.out); rintro e w8 ⟨rfl, hb⟩; have n0_ := Aside0.mk (below_step (by repeat (first | (with_reducible first | exact HB.out | apply below_alloc | apply pw_below_drewN | apply below_drew1) | exact HB.out)) hb); clear HB; have HB := n0_; clear n0_; (try clear hb); (try clear hb2); (try clear hk); (try clear hi)))
      go_meet
      case rel => exact ⟨_, (!t249), (by first | rfl | (simp; done) | (simp [*]; done)), H', ⟨by first | omega | exact Nat.le_refl _⟩, ⟨by repeat (first | (with_reducible first | exact HB.out | apply below_alloc | apply pw_below_drewN | apply below_drew1) | exact HB.out)⟩⟩
    · replace c5 := Bool.eq_false_iff.mpr c5
      subst c5
      have H1 : (tripartitelaw07_DocJoins.j0 k l0 l1 true) = some r := by rw [if_neg (show ¬ (false = true) by decide)] at H; exact H
      clear H
      have H := H1
      clear H1
      have H' := Aside0.mk H
      clear H
      go_wp2_with (first | ((with_reducible refine gate_callee (f := 22) rfl ?_); refine goesL_ (some 8) rfl rfl Try.func22 (by kernel_rfl) rfl #[.slice A0 l0.length c0] rfl (by (try simp only [List.map_toArray, List.map_cons, List.map_nil]); first | done | rfl | (simp only [List.length_drop, List.length_take]; rfl)) ?_; (with_reducible refine (tripartitelaw07_Few.calls k _ _ l0 false _ ?side1 ?side2 A4.out).mono ?_); (case side1 => repeat (first | exact (Kd.C_below HR0.out HB.out) | (with_reducible refine Kd.C_alloc ?_ _) | (with_reducible refine Kd.C_drewN ?_ _) | (with_reducible refine Kd.C_drew ?_))); (case side2 => exact HC0.out); rintro e w9 ⟨rfl, hb⟩; refine ⟨_, rfl, ?_⟩; have n0_ := Aside0.mk (below_step (by repeat (first | (with_reducible first | exact HB.out | apply below_alloc | apply pw_below_drewN | apply below_drew1) | exact HB.out)) hb); clear HB; have HB := n0_; clear n0_; (try clear hb); (try clear hb2); (try clear hk); (try clear hi)))
      go_meet
      case rel => exact ⟨_, (true), (by first | rfl | (simp; done) | (simp [*]; done)), H', ⟨by first | omega | exact Nat.le_refl _⟩, ⟨by repeat (first | (with_reducible first | exact HB.out | apply below_alloc | apply pw_below_drewN | apply below_drew1) | exact HB.out)⟩⟩
  case rest =>
    clear HC3
    try clear c1
    try clear c2
    try clear p2
    try clear c4
    try clear c5
    obtain ⟨kq, x14_2, rfl, HA, HJ2, HB⟩ := hcut
    cases kq with
    | zero => exact absurd HA.out (by simp [tripartitelaw07_DocJoins.j0])
    | succ kj2 =>
      have H := HA.out
      clear HA
      simp only [tripartitelaw07_DocJoins.j0] at H
      by_cases c10 : x14_2 = true
      · subst c10
        have H1 : ((tripartitelaw07_told.f kj2).bind fun t250 => (some t250)) = some r := by rw [if_pos rfl] at H; exact H
        clear H
        have H := H1
        clear H1
        replace H := Option.bind_eq_some_iff.mp H
        obtain ⟨t250, A110, H⟩ := H
        replace H : (some t250) = some r := H
        have A11 := Aside0.mk A110
        clear A110
        obtain rfl := Option.some.inj H
        go_wp2_with (first | ((with_reducible refine gate_callee (f := 20) rfl ?_); refine goesL_ (some 15) rfl rfl Try.func20 (by kernel_rfl) rfl #[] rfl (by (try simp only [List.map_toArray, List.map_cons, List.map_nil]); first | done | rfl | (simp only [List.length_drop, List.length_take]; rfl)) ?_; (with_reducible refine (tripartitelaw07_told.calls kj2  t250 _ A11.out).mono ?_); rintro e w12 ⟨rfl, hb⟩; refine ⟨_, rfl, ?_⟩; have n0_ := Aside0.mk (below_step (by repeat (first | (with_reducible first | exact HB.out | apply below_alloc | apply pw_below_drewN | apply below_drew1) | exact HB.out)) hb); clear HB; have HB := n0_; clear n0_; (try clear hb); (try clear hb2); (try clear hk); (try clear hi)))
        go_ret
        exact ⟨by first | rfl | (simp [errW_none, errW_some] <;> rfl) | (simp [*, errW_none, errW_some] <;> rfl), by repeat (first | (with_reducible first | exact HB.out | apply below_alloc | apply pw_below_drewN | apply below_drew1) | exact HB.out)⟩
      · replace c10 := Bool.eq_false_iff.mpr c10
        subst c10
        have H1 : ((tripartitelaw07_To.f kj2 l0).bind fun t251 => ((doc_Of.f kj2 t251).bind fun t254 => ((tripartitelaw07_told.f kj2).bind fun t257 => (if t257 = true then ((tripartitelaw07_From.f kj2 t254).bind fun t258 => ((tripartiteref07_Of.f kj2 l0).bind fun t261 => ((tripartiteref07_Same.f kj2 t258 t261).bind fun t264 => (if t264 = true then ((tripartitelaw07_From.f kj2 t251).bind fun t265 => ((tripartiteref07_Same.f kj2 t265 l0).bind fun t268 => (if t268 = true then ((tripartitelaw07_To.f kj2 l1).bind fun t269 => ((doc_Same.f kj2 t251 t269).bind fun t272 => ((tripartiteref07_Same.f kj2 l0 l1).bind fun t273 => (if (t272 == t273) = true then ((doc_Of.f kj2 t254).bind fun t274 => ((doc_Same.f kj2 t274 t254).bind fun t277 => (some t277))) else (some false))))) else (some false)))) else (some false))))) else (some false))))) = some r := by rw [if_neg (show ¬ (false = true) by decide)] at H; exact H
        clear H
        have H := H1
        clear H1
        replace H := Option.bind_eq_some_iff.mp H
        obtain ⟨t251, A130, H⟩ := H
        replace H : ((doc_Of.f kj2 t251).bind fun t254 => ((tripartitelaw07_told.f kj2).bind fun t257 => (if t257 = true then ((tripartitelaw07_From.f kj2 t254).bind fun t258 => ((tripartiteref07_Of.f kj2 l0).bind fun t261 => ((tripartiteref07_Same.f kj2 t258 t261).bind fun t264 => (if t264 = true then ((tripartitelaw07_From.f kj2 t251).bind fun t265 => ((tripartiteref07_Same.f kj2 t265 l0).bind fun t268 => (if t268 = true then ((tripartitelaw07_To.f kj2 l1).bind fun t269 => ((doc_Same.f kj2 t251 t269).bind fun t272 => ((tripartiteref07_Same.f kj2 l0 l1).bind fun t273 => (if (t272 == t273) = true then ((doc_Of.f kj2 t254).bind fun t274 => ((doc_Same.f kj2 t274 t254).bind fun t277 => (some t277))) else (some false))))) else (some false)))) else (some false))))) else (some false)))) = some r := H
        have A13 := Aside0.mk A130
        clear A130
        replace H := Option.bind_eq_some_iff.mp H
        obtain ⟨t254, A140, H⟩ := H
        replace H : ((tripartitelaw07_told.f kj2).bind fun t257 => (if t257 = true then ((tripartitelaw07_From.f kj2 t254).bind fun t258 => ((tripartiteref07_Of.f kj2 l0).bind fun t261 => ((tripartiteref07_Same.f kj2 t258 t261).bind fun t264 => (if t264 = true then ((tripartitelaw07_From.f kj2 t251).bind fun t265 => ((tripartiteref07_Same.f kj2 t265 l0).bind fun t268 => (if t268 = true then ((tripartitelaw07_To.f kj2 l1).bind fun t269 => ((doc_Same.f kj2 t251 t269).bind fun t272 => ((tripartiteref07_Same.f kj2 l0 l1).bind fun t273 => (if (t272 == t273) = true then ((doc_Of.f kj2 t254).bind fun t274 => ((doc_Same.f kj2 t274 t254).bind fun t277 => (some t277))) else (some false))))) else (some false)))) else (some false))))) else (some false))) = some r := H
        have A14 := Aside0.mk A140
        clear A140
        replace H := Option.bind_eq_some_iff.mp H
        obtain ⟨t257, A150, H⟩ := H
        replace H : (if t257 = true then ((tripartitelaw07_From.f kj2 t254).bind fun t258 => ((tripartiteref07_Of.f kj2 l0).bind fun t261 => ((tripartiteref07_Same.f kj2 t258 t261).bind fun t264 => (if t264 = true then ((tripartitelaw07_From.f kj2 t251).bind fun t265 => ((tripartiteref07_Same.f kj2 t265 l0).bind fun t268 => (if t268 = true then ((tripartitelaw07_To.f kj2 l1).bind fun t269 => ((doc_Same.f kj2 t251 t269).bind fun t272 => ((tripartiteref07_Same.f kj2 l0 l1).bind fun t273 => (if (t272 == t273) = true then ((doc_Of.f kj2 t254).bind fun t274 => ((doc_Same.f kj2 t274 t254).bind fun t277 => (some t277))) else (some false))))) else (some false)))) else (some false))))) else (some false)) = some r := H
        have A15 := Aside0.mk A150
        clear A150
        by_cases c16 : t257 = true
        · subst c16
          have H1 : ((tripartitelaw07_From.f kj2 t254).bind fun t258 => ((tripartiteref07_Of.f kj2 l0).bind fun t261 => ((tripartiteref07_Same.f kj2 t258 t261).bind fun t264 => (if t264 = true then ((tripartitelaw07_From.f kj2 t251).bind fun t265 => ((tripartiteref07_Same.f kj2 t265 l0).bind fun t268 => (if t268 = true then ((tripartitelaw07_To.f kj2 l1).bind fun t269 => ((doc_Same.f kj2 t251 t269).bind fun t272 => ((tripartiteref07_Same.f kj2 l0 l1).bind fun t273 => (if (t272 == t273) = true then ((doc_Of.f kj2 t254).bind fun t274 => ((doc_Same.f kj2 t274 t254).bind fun t277 => (some t277))) else (some false))))) else (some false)))) else (some false))))) = some r := by rw [if_pos rfl] at H; exact H
          clear H
          have H := H1
          clear H1
          replace H := Option.bind_eq_some_iff.mp H
          obtain ⟨t258, A170, H⟩ := H
          replace H : ((tripartiteref07_Of.f kj2 l0).bind fun t261 => ((tripartiteref07_Same.f kj2 t258 t261).bind fun t264 => (if t264 = true then ((tripartitelaw07_From.f kj2 t251).bind fun t265 => ((tripartiteref07_Same.f kj2 t265 l0).bind fun t268 => (if t268 = true then ((tripartitelaw07_To.f kj2 l1).bind fun t269 => ((doc_Same.f kj2 t251 t269).bind fun t272 => ((tripartiteref07_Same.f kj2 l0 l1).bind fun t273 => (if (t272 == t273) = true then ((doc_Of.f kj2 t254).bind fun t274 => ((doc_Same.f kj2 t274 t254).bind fun t277 => (some t277))) else (some false))))) else (some false)))) else (some false)))) = some r := H
          have A17 := Aside0.mk A170
          clear A170
          replace H := Option.bind_eq_some_iff.mp H
          obtain ⟨t261, A180, H⟩ := H
          replace H : ((tripartiteref07_Same.f kj2 t258 t261).bind fun t264 => (if t264 = true then ((tripartitelaw07_From.f kj2 t251).bind fun t265 => ((tripartiteref07_Same.f kj2 t265 l0).bind fun t268 => (if t268 = true then ((tripartitelaw07_To.f kj2 l1).bind fun t269 => ((doc_Same.f kj2 t251 t269).bind fun t272 => ((tripartiteref07_Same.f kj2 l0 l1).bind fun t273 => (if (t272 == t273) = true then ((doc_Of.f kj2 t254).bind fun t274 => ((doc_Same.f kj2 t274 t254).bind fun t277 => (some t277))) else (some false))))) else (some false)))) else (some false))) = some r := H
          have A18 := Aside0.mk A180
          clear A180
          replace H := Option.bind_eq_some_iff.mp H
          obtain ⟨t264, A190, H⟩ := H
          replace H : (if t264 = true then ((tripartitelaw07_From.f kj2 t251).bind fun t265 => ((tripartiteref07_Same.f kj2 t265 l0).bind fun t268 => (if t268 = true then ((tripartitelaw07_To.f kj2 l1).bind fun t269 => ((doc_Same.f kj2 t251 t269).bind fun t272 => ((tripartiteref07_Same.f kj2 l0 l1).bind fun t273 => (if (t272 == t273) = true then ((doc_Of.f kj2 t254).bind fun t274 => ((doc_Same.f kj2 t274 t254).bind fun t277 => (some t277))) else (some false))))) else (some false)))) else (some false)) = some r := H
          have A19 := Aside0.mk A190
          clear A190
          by_cases c20 : t264 = true
          · subst c20
            have H1 : ((tripartitelaw07_From.f kj2 t251).bind fun t265 => ((tripartiteref07_Same.f kj2 t265 l0).bind fun t268 => (if t268 = true then ((tripartitelaw07_To.f kj2 l1).bind fun t269 => ((doc_Same.f kj2 t251 t269).bind fun t272 => ((tripartiteref07_Same.f kj2 l0 l1).bind fun t273 => (if (t272 == t273) = true then ((doc_Of.f kj2 t254).bind fun t274 => ((doc_Same.f kj2 t274 t254).bind fun t277 => (some t277))) else (some false))))) else (some false)))) = some r := by rw [if_pos rfl] at H; exact H
            clear H
            have H := H1
            clear H1
            replace H := Option.bind_eq_some_iff.mp H
            obtain ⟨t265, A210, H⟩ := H
            replace H : ((tripartiteref07_Same.f kj2 t265 l0).bind fun t268 => (if t268 = true then ((tripartitelaw07_To.f kj2 l1).bind fun t269 => ((doc_Same.f kj2 t251 t269).bind fun t272 => ((tripartiteref07_Same.f kj2 l0 l1).bind fun t273 => (if (t272 == t273) = true then ((doc_Of.f kj2 t254).bind fun t274 => ((doc_Same.f kj2 t274 t254).bind fun t277 => (some t277))) else (some false))))) else (some false))) = some r := H
            have A21 := Aside0.mk A210
            clear A210
            replace H := Option.bind_eq_some_iff.mp H
            obtain ⟨t268, A220, H⟩ := H
            replace H : (if t268 = true then ((tripartitelaw07_To.f kj2 l1).bind fun t269 => ((doc_Same.f kj2 t251 t269).bind fun t272 => ((tripartiteref07_Same.f kj2 l0 l1).bind fun t273 => (if (t272 == t273) = true then ((doc_Of.f kj2 t254).bind fun t274 => ((doc_Same.f kj2 t274 t254).bind fun t277 => (some t277))) else (some false))))) else (some false)) = some r := H
            have A22 := Aside0.mk A220
            clear A220
            by_cases c23 : t268 = true
            · subst c23
              have H1 : ((tripartitelaw07_To.f kj2 l1).bind fun t269 => ((doc_Same.f kj2 t251 t269).bind fun t272 => ((tripartiteref07_Same.f kj2 l0 l1).bind fun t273 => (if (t272 == t273) = true then ((doc_Of.f kj2 t254).bind fun t274 => ((doc_Same.f kj2 t274 t254).bind fun t277 => (some t277))) else (some false))))) = some r := by rw [if_pos rfl] at H; exact H
              clear H
              have H := H1
              clear H1
              replace H := Option.bind_eq_some_iff.mp H
              obtain ⟨t269, A240, H⟩ := H
              replace H : ((doc_Same.f kj2 t251 t269).bind fun t272 => ((tripartiteref07_Same.f kj2 l0 l1).bind fun t273 => (if (t272 == t273) = true then ((doc_Of.f kj2 t254).bind fun t274 => ((doc_Same.f kj2 t274 t254).bind fun t277 => (some t277))) else (some false)))) = some r := H
              have A24 := Aside0.mk A240
              clear A240
              replace H := Option.bind_eq_some_iff.mp H
              obtain ⟨t272, A250, H⟩ := H
              replace H : ((tripartiteref07_Same.f kj2 l0 l1).bind fun t273 => (if (t272 == t273) = true then ((doc_Of.f kj2 t254).bind fun t274 => ((doc_Same.f kj2 t274 t254).bind fun t277 => (some t277))) else (some false))) = some r := H
              have A25 := Aside0.mk A250
              clear A250
              replace H := Option.bind_eq_some_iff.mp H
              obtain ⟨t273, A260, H⟩ := H
              replace H : (if (t272 == t273) = true then ((doc_Of.f kj2 t254).bind fun t274 => ((doc_Same.f kj2 t274 t254).bind fun t277 => (some t277))) else (some false)) = some r := H
              have A26 := Aside0.mk A260
              clear A260
              by_cases c27 : (t272 == t273) = true
              · rw [if_pos c27] at H
                have c27b0 : (t272 == t273) = true := c27
                (try (have c27b1 : decide (t272 = t273) = true := by simpa using c27))
                (try (have c27b2 : (t272 == t273) = true := by simpa using c27))
                clear c27
                replace H := Option.bind_eq_some_iff.mp H
                obtain ⟨t274, A280, H⟩ := H
                replace H : ((doc_Same.f kj2 t274 t254).bind fun t277 => (some t277)) = some r := H
                have A28 := Aside0.mk A280
                clear A280
                replace H := Option.bind_eq_some_iff.mp H
                obtain ⟨t277, A290, H⟩ := H
                replace H : (some t277) = some r := H
                have A29 := Aside0.mk A290
                clear A290
                obtain rfl := Option.some.inj H
                go_wp2_with (first | ((with_reducible refine gate_callee (f := 23) rfl ?_); refine goesL_ (some 17) rfl rfl Try.func23 (by kernel_rfl) rfl #[.slice A0 l0.length c0] rfl (by (try simp only [List.map_toArray, List.map_cons, List.map_nil]); first | done | rfl | (simp only [List.length_drop, List.length_take]; rfl)) ?_; (with_reducible refine (tripartitelaw07_To.calls kj2 _ _ l0 t251 _ ?side1 ?side2 A13.out).mono ?_); (case side1 => repeat (first | exact (Kd.C_below HR0.out HB.out) | (with_reducible refine Kd.C_alloc ?_ _) | (with_reducible refine Kd.C_drewN ?_ _) | (with_reducible refine Kd.C_drew ?_))); (case side2 => exact HC0.out); rintro e w30 ⟨v252, rfl, ho0, hb⟩; refine ⟨_, rfl, ?_⟩; have n0_ := Aside0.mk (Kd.R_lower ho0 (below_size (by repeat (first | (with_reducible first | exact HB.out | apply below_alloc | apply pw_below_drewN | apply below_drew1) | exact HB.out)))); have n1_ := Aside0.mk (below_step (by repeat (first | (with_reducible first | exact HB.out | apply below_alloc | apply pw_below_drewN | apply below_drew1) | exact HB.out)) hb); clear HB; have HO253 := n0_; have HB := n1_; clear n0_ n1_; (try clear hb); (try clear hb2); (try clear hk); (try clear hi); (try clear ho0); obtain ⟨Ao31, co31, eo31⟩ := Kd.R_slice HO253.out; subst eo31) | ((with_reducible refine gate_callee (f := 24) rfl ?_); refine goesL_ (some 19) rfl rfl Try.func24 (by kernel_rfl) rfl #[.slice Ao31 t251.length co31] rfl (by (try simp only [List.map_toArray, List.map_cons, List.map_nil]); first | done | rfl | (simp only [List.length_drop, List.length_take]; rfl)) ?_; (with_reducible refine (doc_Of.calls kj2 _ _ t251 t254 _ ?side1 ?side2 A14.out).mono ?_); (case side1 => repeat (first | exact (Kd.R_reads' HO253.out).2.2 | (with_reducible refine Kd.C_alloc ?_ _) | (with_reducible refine Kd.C_drewN ?_ _) | (with_reducible refine Kd.C_drew ?_))); (case side2 => exact (Kd.R_reads' HO253.out).2.1); rintro e w32 ⟨v255, rfl, ho0, hb⟩; refine ⟨_, rfl, ?_⟩; have n0_ := Aside0.mk (Kd.R_elder' (by (with_reducible repeat (first | apply Kd.R_alloc | apply Kd.R_drewN | apply Kd.R_drew)); exact HO253.out) (Kd.R_base ho0) hb); have n1_ := Aside0.mk (Kd.R_lower (Kd.R_new' ho0 (Kd.R_lt (by (with_reducible repeat (first | apply Kd.R_alloc | apply Kd.R_drewN | apply Kd.R_drew)); exact HO253.out))) (below_size (by repeat (first | (with_reducible first | exact HB.out | apply below_alloc | apply pw_below_drewN | apply below_drew1) | exact HB.out)))); have n2_ := Aside0.mk (below_step (by repeat (first | (with_reducible first | exact HB.out | apply below_alloc | apply pw_below_drewN | apply below_drew1) | exact HB.out)) hb); clear HO253; clear HB; have HO253 := n0_; have HO256 := n1_; have HB := n2_; clear n0_ n1_ n2_; (try clear hb); (try clear hb2); (try clear hk); (try clear hi); (try clear ho0)) | ((with_reducible refine gate_callee (f := 20) rfl ?_); refine goesL_ (some 20) rfl rfl Try.func20 (by kernel_rfl) rfl #[] rfl (by (try simp only [List.map_toArray, List.map_cons, List.map_nil]); first | done | rfl | (simp only [List.length_drop, List.length_take]; rfl)) ?_; (with_reducible refine (tripartitelaw07_told.calls kj2  true _ A15.out).mono ?_); rintro e w33 ⟨rfl, hb⟩; refine ⟨_, rfl, ?_⟩; have n0_ := Aside0.mk (Kd.R_below (by (with_reducible repeat (first | apply Kd.R_alloc | apply Kd.R_drewN | apply Kd.R_drew)); exact HO253.out) hb); have n1_ := Aside0.mk (Kd.R_below (by (with_reducible repeat (first | apply Kd.R_alloc | apply Kd.R_drewN | apply Kd.R_drew)); exact HO256.out) hb); have n2_ := Aside0.mk (below_step (by repeat (first | (with_reducible first | exact HB.out | apply below_alloc | apply pw_below_drewN | apply below_drew1) | exact HB.out)) hb); clear HO253; clear HO256; clear HB; have HO253 := n0_; have HO256 := n1_; have HB := n2_; clear n0_ n1_ n2_; (try clear hb); (try clear hb2); (try clear hk); (try clear hi); obtain ⟨Ao34, co34, eo34⟩ := Kd.R_slice HO256.out; subst eo34) | (go_at_call 26; (with_reducible refine (tripartitelaw07_From.calls kj2 _ _ t254 t258 _ ?side1 ?side2 A17.out).mono ?_); (case side1 => repeat (first | exact (Kd.R_reads' HO256.out).2.2 | (with_reducible refine Kd.C_alloc ?_ _) | (with_reducible refine Kd.C_drewN ?_ _) | (with_reducible refine Kd.C_drew ?_))); (case side2 => exact (Kd.R_reads' HO256.out).2.1); rintro e w35 ⟨v259, rfl, ho0, hb⟩; have n0_ := Aside0.mk (Kd.R_below (by (with_reducible repeat (first | apply Kd.R_alloc | apply Kd.R_drewN | apply Kd.R_drew)); exact HO253.out) hb); have n1_ := Aside0.mk (Kd.R_below (by (with_reducible repeat (first | apply Kd.R_alloc | apply Kd.R_drewN | apply Kd.R_drew)); exact HO256.out) hb); have n2_ := Aside0.mk (Kd.R_lower ho0 (below_size (by repeat (first | (with_reducible first | exact HB.out | apply below_alloc | apply pw_below_drewN | apply below_drew1) | exact HB.out)))); have n3_ := Aside0.mk (below_step (by repeat (first | (with_reducible first | exact HB.out | apply below_alloc | apply pw_below_drewN | apply below_drew1) | exact HB.out)) hb); clear HO253; clear HO256; clear HB; have HO253 := n0_; have HO256 := n1_; have HO260 := n2_; have HB := n3_; clear n0_ n1_ n2_ n3_; (try clear hb); (try clear hb2); (try clear hk); (try clear hi); (try clear ho0)) | (go_at_call 27; (with_reducible refine (tripartiteref07_Of.calls kj2 _ _ l0 t261 _ ?side1 ?side2 A18.out).mono ?_); (case side1 => repeat (first | exact (Kd.C_below HR0.out HB.out) | (with_reducible refine Kd.C_alloc ?_ _) | (with_reducible refine Kd.C_drewN ?_ _) | (with_reducible refine Kd.C_drew ?_))); (case side2 => exact HC0.out); rintro e w36 ⟨v262, rfl, ho0, hb⟩; have n0_ := Aside0.mk (Kd.R_below (by (with_reducible repeat (first | apply Kd.R_alloc | apply Kd.R_drewN | apply Kd.R_drew)); exact HO253.out) hb); have n1_ := Aside0.mk (Kd.R_below (by (with_reducible repeat (first | apply Kd.R_alloc | apply Kd.R_drewN | apply Kd.R_drew)); exact HO256.out) hb); have n2_ := Aside0.mk (Kd.R_elder' (by (with_reducible repeat (first | apply Kd.R_alloc | apply Kd.R_drewN | apply Kd.R_drew)); exact HO260.out) (Kd.R_base ho0) hb); have n3_ := Aside0.mk (Kd.R_lower (Kd.R_new' ho0 (Kd.R_lt (by (with_reducible repeat (first | apply Kd.R_alloc | apply Kd.R_drewN | apply Kd.R_drew)); exact HO260.out))) (below_size (by repeat (first | (with_reducible first | exact HB.out | apply below_alloc | apply pw_below_drewN | apply below_drew1) | exact HB.out)))); have n4_ := Aside0.mk (below_step (by repeat (first | (with_reducible first | exact HB.out | apply below_alloc | apply pw_below_drewN | apply below_drew1) | exact HB.out)) hb); clear HO253; clear HO256; clear HO260; clear HB; have HO253 := n0_; have HO256 := n1_; have HO260 := n2_; have HO263 := n3_; have HB := n4_; clear n0_ n1_ n2_ n3_ n4_; (try clear hb); (try clear hb2); (try clear hk); (try clear hi); (try clear ho0); obtain ⟨Ao37, co37, eo37⟩ := Kd.R_slice HO260.out; subst eo37; obtain ⟨Ao38, co38, eo38⟩ := Kd.R_slice HO263.out; subst eo38) | (go_at_call 25; (with_reducible refine (tripartiteref07_Same.calls kj2 _ _ t258 _ _ t261 true _ ?side1 ?side2 ?side3 ?side4 A19.out).mono ?_); (case side1 => repeat (first | exact (Kd.R_reads' HO260.out).2.2 | (with_reducible refine Kd.C_alloc ?_ _) | (with_reducible refine Kd.C_drewN ?_ _) | (with_reducible refine Kd.C_drew ?_))); (case side2 => exact (Kd.R_reads' HO260.out).2.1); (case side3 => repeat (first | exact (Kd.R_reads' HO263.out).2.2 | (with_reducible refine Kd.C_alloc ?_ _) | (with_reducible refine Kd.C_drewN ?_ _) | (with_reducible refine Kd.C_drew ?_))); (case side4 => exact (Kd.R_reads' HO263.out).2.1); rintro e w' ⟨rfl, ⟨nd, rfl⟩⟩) | (go_at_call 26; (with_reducible refine (tripartitelaw07_From.calls kj2 _ _ t251 t265 _ ?side1 ?side2 A21.out).mono ?_); (case side1 => repeat (first | exact (Kd.R_reads' HO253.out).2.2 | (with_reducible refine Kd.C_alloc ?_ _) | (with_reducible refine Kd.C_drewN ?_ _) | (with_reducible refine Kd.C_drew ?_))); (case side2 => exact (Kd.R_reads' HO253.out).2.1); rintro e w39 ⟨v266, rfl, ho0, hb⟩; have n0_ := Aside0.mk (Kd.R_below (by (with_reducible repeat (first | apply Kd.R_alloc | apply Kd.R_drewN | apply Kd.R_drew)); exact HO253.out) hb); have n1_ := Aside0.mk (Kd.R_below (by (with_reducible repeat (first | apply Kd.R_alloc | apply Kd.R_drewN | apply Kd.R_drew)); exact HO256.out) hb); have n2_ := Aside0.mk (Kd.R_elder' (by (with_reducible repeat (first | apply Kd.R_alloc | apply Kd.R_drewN | apply Kd.R_drew)); exact HO260.out) (Kd.R_base ho0) hb); have n3_ := Aside0.mk (Kd.R_elder' (by (with_reducible repeat (first | apply Kd.R_alloc | apply Kd.R_drewN | apply Kd.R_drew)); exact HO263.out) (Kd.R_base ho0) hb); have n4_ := Aside0.mk (Kd.R_lower (Kd.R_new' (Kd.R_new' ho0 (Kd.R_lt (by (with_reducible repeat (first | apply Kd.R_alloc | apply Kd.R_drewN | apply Kd.R_drew)); exact HO260.out))) (Kd.R_lt (by (with_reducible repeat (first | apply Kd.R_alloc | apply Kd.R_drewN | apply Kd.R_drew)); exact HO263.out))) (below_size (by repeat (first | (with_reducible first | exact HB.out | apply below_alloc | apply pw_below_drewN | apply below_drew1) | exact HB.out)))); have n5_ := Aside0.mk (below_step (by repeat (first | (with_reducible first | exact HB.out | apply below_alloc | apply pw_below_drewN | apply below_drew1) | exact HB.out)) hb); clear HO253; clear HO256; clear HO260; clear HO263; clear HB; have HO253 := n0_; have HO256 := n1_; have HO260 := n2_; have HO263 := n3_; have HO267 := n4_; have HB := n5_; clear n0_ n1_ n2_ n3_ n4_ n5_; (try clear hb); (try clear hb2); (try clear hk); (try clear hi); (try clear ho0); obtain ⟨Ao40, co40, eo40⟩ := Kd.R_slice HO267.out; subst eo40) | (go_at_call 25; (with_reducible refine (tripartiteref07_Same.calls kj2 _ _ t265 _ _ l0 true _ ?side1 ?side2 ?side3 ?side4 A22.out).mono ?_); (case side1 => repeat (first | exact (Kd.R_reads' HO267.out).2.2 | (with_reducible refine Kd.C_alloc ?_ _) | (with_reducible refine Kd.C_drewN ?_ _) | (with_reducible refine Kd.C_drew ?_))); (case side2 => exact (Kd.R_reads' HO267.out).2.1); (case side3 => repeat (first | exact (Kd.C_below HR0.out HB.out) | (with_reducible refine Kd.C_alloc ?_ _) | (with_reducible refine Kd.C_drewN ?_ _) | (with_reducible refine Kd.C_drew ?_))); (case side4 => exact HC0.out); rintro e w' ⟨rfl, ⟨nd, rfl⟩⟩) | (go_at_call 23; (with_reducible refine (tripartitelaw07_To.calls kj2 _ _ l1 t269 _ ?side1 ?side2 A24.out).mono ?_); (case side1 => repeat (first | exact (Kd.C_below HR1.out (by repeat (first | (with_reducible first | exact HB.out | apply below_alloc | apply pw_below_drewN | apply below_drew1) | exact HB.out))) | (with_reducible refine Kd.C_alloc ?_ _) | (with_reducible refine Kd.C_drewN ?_ _) | (with_reducible refine Kd.C_drew ?_))); (case side2 => exact HC1.out); rintro e w41 ⟨v270, rfl, ho0, hb⟩; have n0_ := Aside0.mk (Kd.R_elder' (by (with_reducible repeat (first | apply Kd.R_alloc | apply Kd.R_drewN | apply Kd.R_drew)); exact HO253.out) (Kd.R_base ho0) hb); have n1_ := Aside0.mk (Kd.R_elder' (by (with_reducible repeat (first | apply Kd.R_alloc | apply Kd.R_drewN | apply Kd.R_drew)); exact HO256.out) (Kd.R_base ho0) hb); have n2_ := Aside0.mk (Kd.R_below (by (with_reducible repeat (first | apply Kd.R_alloc | apply Kd.R_drewN | apply Kd.R_drew)); exact HO260.out) hb); have n3_ := Aside0.mk (Kd.R_below (by (with_reducible repeat (first | apply Kd.R_alloc | apply Kd.R_drewN | apply Kd.R_drew)); exact HO263.out) hb); have n4_ := Aside0.mk (Kd.R_below (by (with_reducible repeat (first | apply Kd.R_alloc | apply Kd.R_drewN | apply Kd.R_drew)); exact HO267.out) hb); have n5_ := Aside0.mk (Kd.R_lower (Kd.R_new' (Kd.R_new' ho0 (Kd.R_lt (by (with_reducible repeat (first | apply Kd.R_alloc | apply Kd.R_drewN | apply Kd.R_drew)); exact HO253.out))) (Kd.R_lt (by (with_reducible repeat (first | apply Kd.R_alloc | apply Kd.R_drewN | apply Kd.R_drew)); exact HO256.out))) (below_size (by repeat (first | (with_reducible first | exact HB.out | apply below_alloc | apply pw_below_drewN | apply below_drew1) | exact HB.out)))); have n6_ := Aside0.mk (below_step (by repeat (first | (with_reducible first | exact HB.out | apply below_alloc | apply pw_below_drewN | apply below_drew1) | exact HB.out)) hb); clear HO253; clear HO256; clear HO260; clear HO263; clear HO267; clear HB; have HO253 := n0_; have HO256 := n1_; have HO260 := n2_; have HO263 := n3_; have HO267 := n4_; have HO271 := n5_; have HB := n6_; clear n0_ n1_ n2_ n3_ n4_ n5_ n6_; (try clear hb); (try clear hb2); (try clear hk); (try clear hi); (try clear ho0); obtain ⟨Ao42, co42, eo42⟩ := Kd.R_slice HO271.out; subst eo42) | (go_at_call 28; (with_reducible refine (doc_Same.calls kj2 _ _ t251 _ _ t269 t272 _ ?side1 ?side2 ?side3 ?side4 A25.out).mono ?_); (case side1 => repeat (first | exact (Kd.R_reads' HO253.out).2.2 | (with_reducible refine Kd.C_alloc ?_ _) | (with_reducible refine Kd.C_drewN ?_ _) | (with_reducible refine Kd.C_drew ?_))); (case side2 => exact (Kd.R_reads' HO253.out).2.1); (case side3 => repeat (first | exact (Kd.R_reads' HO271.out).2.2 | (with_reducible refine Kd.C_alloc ?_ _) | (with_reducible refine Kd.C_drewN ?_ _) | (with_reducible refine Kd.C_drew ?_))); (case side4 => exact (Kd.R_reads' HO271.out).2.1); rintro e w' ⟨rfl, ⟨nd, rfl⟩⟩) | (go_at_call 25; (with_reducible refine (tripartiteref07_Same.calls kj2 _ _ l0 _ _ l1 t273 _ ?side1 ?side2 ?side3 ?side4 A26.out).mono ?_); (case side1 => repeat (first | exact (Kd.C_below HR0.out (by repeat (first | (with_reducible first | exact HB.out | apply below_alloc | apply pw_below_drewN | apply below_drew1) | exact HB.out))) | (with_reducible refine Kd.C_alloc ?_ _) | (with_reducible refine Kd.C_drewN ?_ _) | (with_reducible refine Kd.C_drew ?_))); (case side2 => exact HC0.out); (case side3 => repeat (first | exact (Kd.C_below HR1.out (by repeat (first | (with_reducible first | exact HB.out | apply below_alloc | apply pw_below_drewN | apply below_drew1) | exact HB.out))) | (with_reducible refine Kd.C_alloc ?_ _) | (with_reducible refine Kd.C_drewN ?_ _) | (with_reducible refine Kd.C_drew ?_))); (case side4 => exact HC1.out); rintro e w' ⟨rfl, ⟨nd, rfl⟩⟩) | (go_at_call 24; (with_reducible refine (doc_Of.calls kj2 _ _ t254 t274 _ ?side1 ?side2 A28.out).mono ?_); (case side1 => repeat (first | exact (Kd.R_reads' HO256.out).2.2 | (with_reducible refine Kd.C_alloc ?_ _) | (with_reducible refine Kd.C_drewN ?_ _) | (with_reducible refine Kd.C_drew ?_))); (case side2 => exact (Kd.R_reads' HO256.out).2.1); rintro e w43 ⟨v275, rfl, ho0, hb⟩; have n0_ := Aside0.mk (Kd.R_elder' (by (with_reducible repeat (first | apply Kd.R_alloc | apply Kd.R_drewN | apply Kd.R_drew)); exact HO253.out) (Kd.R_base ho0) hb); have n1_ := Aside0.mk (Kd.R_elder' (by (with_reducible repeat (first | apply Kd.R_alloc | apply Kd.R_drewN | apply Kd.R_drew)); exact HO256.out) (Kd.R_base ho0) hb); have n2_ := Aside0.mk (Kd.R_below (by (with_reducible repeat (first | apply Kd.R_alloc | apply Kd.R_drewN | apply Kd.R_drew)); exact HO260.out) hb); have n3_ := Aside0.mk (Kd.R_below (by (with_reducible repeat (first | apply Kd.R_alloc | apply Kd.R_drewN | apply Kd.R_drew)); exact HO263.out) hb); have n4_ := Aside0.mk (Kd.R_below (by (with_reducible repeat (first | apply Kd.R_alloc | apply Kd.R_drewN | apply Kd.R_drew)); exact HO267.out) hb); have n5_ := Aside0.mk (Kd.R_elder' (by (with_reducible repeat (first | apply Kd.R_alloc | apply Kd.R_drewN | apply Kd.R_drew)); exact HO271.out) (Kd.R_base ho0) hb); have n6_ := Aside0.mk (Kd.R_lower (Kd.R_new' (Kd.R_new' (Kd.R_new' ho0 (Kd.R_lt (by (with_reducible repeat (first | apply Kd.R_alloc | apply Kd.R_drewN | apply Kd.R_drew)); exact HO253.out))) (Kd.R_lt (by (with_reducible repeat (first | apply Kd.R_alloc | apply Kd.R_drewN | apply Kd.R_drew)); exact HO256.out))) (Kd.R_lt (by (with_reducible repeat (first | apply Kd.R_alloc | apply Kd.R_drewN | apply Kd.R_drew)); exact HO271.out))) (below_size (by repeat (first | (with_reducible first | exact HB.out | apply below_alloc | apply pw_below_drewN | apply below_drew1) | exact HB.out)))); have n7_ := Aside0.mk (below_step (by repeat (first | (with_reducible first | exact HB.out | apply below_alloc | apply pw_below_drewN | apply below_drew1) | exact HB.out)) hb); clear HO253; clear HO256; clear HO260; clear HO263; clear HO267; clear HO271; clear HB; have HO253 := n0_; have HO256 := n1_; have HO260 := n2_; have HO263 := n3_; have HO267 := n4_; have HO271 := n5_; have HO276 := n6_; have HB := n7_; clear n0_ n1_ n2_ n3_ n4_ n5_ n6_ n7_; (try clear hb); (try clear hb2); (try clear hk); (try clear hi); (try clear ho0); obtain ⟨Ao44, co44, eo44⟩ := Kd.R_slice HO276.out; subst eo44) | (go_at_call 28; (with_reducible refine (doc_Same.calls kj2 _ _ t274 _ _ t254 t277 _ ?side1 ?side2 ?side3 ?side4 A29.out).mono ?_); (case side1 => repeat (first | exact (Kd.R_reads' HO276.out).2.2 | (with_reducible refine Kd.C_alloc ?_ _) | (with_reducible refine Kd.C_drewN ?_ _) | (with_reducible refine Kd.C_drew ?_))); (case side2 => exact (Kd.R_reads' HO276.out).2.1); (case side3 => repeat (first | exact (Kd.R_reads' HO256.out).2.2 | (with_reducible refine Kd.C_alloc ?_ _) | (with_reducible refine Kd.C_drewN ?_ _) | (with_reducible refine Kd.C_drew ?_))); (case side4 => exact (Kd.R_reads' HO256.out).2.1); rintro e w' ⟨rfl, ⟨nd, rfl⟩⟩))
                go_ret
                exact ⟨by first | rfl | (simp [errW_none, errW_some] <;> rfl) | (simp [*, errW_none, errW_some] <;> rfl), by repeat (first | (with_reducible first | exact HB.out | apply below_alloc | apply pw_below_drewN | apply below_drew1) | exact HB.out)⟩
              · rw [if_neg c27] at H
                have c27b0 : (t272 == t273) = false := by simpa using c27
                (try (have c27b1 : decide (t272 = t273) = false := by simpa using c27))
                (try (have c27b2 : (t272 == t273) = false := by simpa using c27))
                (try (have c27b3 : ¬ (t272 = t273) := by simpa using c27))
                clear c27
                obtain rfl := Option.some.inj H
                go_wp2_with (first | ((with_reducible refine gate_callee (f := 23) rfl ?_); refine goesL_ (some 17) rfl rfl Try.func23 (by kernel_rfl) rfl #[.slice A0 l0.length c0] rfl (by (try simp only [List.map_toArray, List.map_cons, List.map_nil]); first | done | rfl | (simp only [List.length_drop, List.length_take]; rfl)) ?_; (with_reducible refine (tripartitelaw07_To.calls kj2 _ _ l0 t251 _ ?side1 ?side2 A13.out).mono ?_); (case side1 => repeat (first | exact (Kd.C_below HR0.out HB.out) | (with_reducible refine Kd.C_alloc ?_ _) | (with_reducible refine Kd.C_drewN ?_ _) | (with_reducible refine Kd.C_drew ?_))); (case side2 => exact HC0.out); rintro e w45 ⟨v252, rfl, ho0, hb⟩; refine ⟨_, rfl, ?_⟩; have n0_ := Aside0.mk (Kd.R_lower ho0 (below_size (by repeat (first | (with_reducible first | exact HB.out | apply below_alloc | apply pw_below_drewN | apply below_drew1) | exact HB.out)))); have n1_ := Aside0.mk (below_step (by repeat (first | (with_reducible first | exact HB.out | apply below_alloc | apply pw_below_drewN | apply below_drew1) | exact HB.out)) hb); clear HB; have HO253 := n0_; have HB := n1_; clear n0_ n1_; (try clear hb); (try clear hb2); (try clear hk); (try clear hi); (try clear ho0); obtain ⟨Ao46, co46, eo46⟩ := Kd.R_slice HO253.out; subst eo46) | ((with_reducible refine gate_callee (f := 24) rfl ?_); refine goesL_ (some 19) rfl rfl Try.func24 (by kernel_rfl) rfl #[.slice Ao46 t251.length co46] rfl (by (try simp only [List.map_toArray, List.map_cons, List.map_nil]); first | done | rfl | (simp only [List.length_drop, List.length_take]; rfl)) ?_; (with_reducible refine (doc_Of.calls kj2 _ _ t251 t254 _ ?side1 ?side2 A14.out).mono ?_); (case side1 => repeat (first | exact (Kd.R_reads' HO253.out).2.2 | (with_reducible refine Kd.C_alloc ?_ _) | (with_reducible refine Kd.C_drewN ?_ _) | (with_reducible refine Kd.C_drew ?_))); (case side2 => exact (Kd.R_reads' HO253.out).2.1); rintro e w47 ⟨v255, rfl, ho0, hb⟩; refine ⟨_, rfl, ?_⟩; have n0_ := Aside0.mk (Kd.R_elder' (by (with_reducible repeat (first | apply Kd.R_alloc | apply Kd.R_drewN | apply Kd.R_drew)); exact HO253.out) (Kd.R_base ho0) hb); have n1_ := Aside0.mk (Kd.R_lower (Kd.R_new' ho0 (Kd.R_lt (by (with_reducible repeat (first | apply Kd.R_alloc | apply Kd.R_drewN | apply Kd.R_drew)); exact HO253.out))) (below_size (by repeat (first | (with_reducible first | exact HB.out | apply below_alloc | apply pw_below_drewN | apply below_drew1) | exact HB.out)))); have n2_ := Aside0.mk (below_step (by repeat (first | (with_reducible first | exact HB.out | apply below_alloc | apply pw_below_drewN | apply below_drew1) | exact HB.out)) hb); clear HO253; clear HB; have HO253 := n0_; have HO256 := n1_; have HB := n2_; clear n0_ n1_ n2_; (try clear hb); (try clear hb2); (try clear hk); (try clear hi); (try clear ho0)) | ((with_reducible refine gate_callee (f := 20) rfl ?_); refine goesL_ (some 20) rfl rfl Try.func20 (by kernel_rfl) rfl #[] rfl (by (try simp only [List.map_toArray, List.map_cons, List.map_nil]); first | done | rfl | (simp only [List.length_drop, List.length_take]; rfl)) ?_; (with_reducible refine (tripartitelaw07_told.calls kj2  true _ A15.out).mono ?_); rintro e w48 ⟨rfl, hb⟩; refine ⟨_, rfl, ?_⟩; have n0_ := Aside0.mk (Kd.R_below (by (with_reducible repeat (first | apply Kd.R_alloc | apply Kd.R_drewN | apply Kd.R_drew)); exact HO253.out) hb); have n1_ := Aside0.mk (Kd.R_below (by (with_reducible repeat (first | apply Kd.R_alloc | apply Kd.R_drewN | apply Kd.R_drew)); exact HO256.out) hb); have n2_ := Aside0.mk (below_step (by repeat (first | (with_reducible first | exact HB.out | apply below_alloc | apply pw_below_drewN | apply below_drew1) | exact HB.out)) hb); clear HO253; clear HO256; clear HB; have HO253 := n0_; have HO256 := n1_; have HB := n2_; clear n0_ n1_ n2_; (try clear hb); (try clear hb2); (try clear hk); (try clear hi); obtain ⟨Ao49, co49, eo49⟩ := Kd.R_slice HO256.out; subst eo49) | (go_at_call 26; (with_reducible refine (tripartitelaw07_From.calls kj2 _ _ t254 t258 _ ?side1 ?side2 A17.out).mono ?_); (case side1 => repeat (first | exact (Kd.R_reads' HO256.out).2.2 | (with_reducible refine Kd.C_alloc ?_ _) | (with_reducible refine Kd.C_drewN ?_ _) | (with_reducible refine Kd.C_drew ?_))); (case side2 => exact (Kd.R_reads' HO256.out).2.1); rintro e w50 ⟨v259, rfl, ho0, hb⟩; have n0_ := Aside0.mk (Kd.R_below (by (with_reducible repeat (first | apply Kd.R_alloc | apply Kd.R_drewN | apply Kd.R_drew)); exact HO253.out) hb); have n1_ := Aside0.mk (Kd.R_below (by (with_reducible repeat (first | apply Kd.R_alloc | apply Kd.R_drewN | apply Kd.R_drew)); exact HO256.out) hb); have n2_ := Aside0.mk (Kd.R_lower ho0 (below_size (by repeat (first | (with_reducible first | exact HB.out | apply below_alloc | apply pw_below_drewN | apply below_drew1) | exact HB.out)))); have n3_ := Aside0.mk (below_step (by repeat (first | (with_reducible first | exact HB.out | apply below_alloc | apply pw_below_drewN | apply below_drew1) | exact HB.out)) hb); clear HO253; clear HO256; clear HB; have HO253 := n0_; have HO256 := n1_; have HO260 := n2_; have HB := n3_; clear n0_ n1_ n2_ n3_; (try clear hb); (try clear hb2); (try clear hk); (try clear hi); (try clear ho0)) | (go_at_call 27; (with_reducible refine (tripartiteref07_Of.calls kj2 _ _ l0 t261 _ ?side1 ?side2 A18.out).mono ?_); (case side1 => repeat (first | exact (Kd.C_below HR0.out HB.out) | (with_reducible refine Kd.C_alloc ?_ _) | (with_reducible refine Kd.C_drewN ?_ _) | (with_reducible refine Kd.C_drew ?_))); (case side2 => exact HC0.out); rintro e w51 ⟨v262, rfl, ho0, hb⟩; have n0_ := Aside0.mk (Kd.R_below (by (with_reducible repeat (first | apply Kd.R_alloc | apply Kd.R_drewN | apply Kd.R_drew)); exact HO253.out) hb); have n1_ := Aside0.mk (Kd.R_below (by (with_reducible repeat (first | apply Kd.R_alloc | apply Kd.R_drewN | apply Kd.R_drew)); exact HO256.out) hb); have n2_ := Aside0.mk (Kd.R_elder' (by (with_reducible repeat (first | apply Kd.R_alloc | apply Kd.R_drewN | apply Kd.R_drew)); exact HO260.out) (Kd.R_base ho0) hb); have n3_ := Aside0.mk (Kd.R_lower (Kd.R_new' ho0 (Kd.R_lt (by (with_reducible repeat (first | apply Kd.R_alloc | apply Kd.R_drewN | apply Kd.R_drew)); exact HO260.out))) (below_size (by repeat (first | (with_reducible first | exact HB.out | apply below_alloc | apply pw_below_drewN | apply below_drew1) | exact HB.out)))); have n4_ := Aside0.mk (below_step (by repeat (first | (with_reducible first | exact HB.out | apply below_alloc | apply pw_below_drewN | apply below_drew1) | exact HB.out)) hb); clear HO253; clear HO256; clear HO260; clear HB; have HO253 := n0_; have HO256 := n1_; have HO260 := n2_; have HO263 := n3_; have HB := n4_; clear n0_ n1_ n2_ n3_ n4_; (try clear hb); (try clear hb2); (try clear hk); (try clear hi); (try clear ho0); obtain ⟨Ao52, co52, eo52⟩ := Kd.R_slice HO260.out; subst eo52; obtain ⟨Ao53, co53, eo53⟩ := Kd.R_slice HO263.out; subst eo53) | (go_at_call 25; (with_reducible refine (tripartiteref07_Same.calls kj2 _ _ t258 _ _ t261 true _ ?side1 ?side2 ?side3 ?side4 A19.out).mono ?_); (case side1 => repeat (first | exact (Kd.R_reads' HO260.out).2.2 | (with_reducible refine Kd.C_alloc ?_ _) | (with_reducible refine Kd.C_drewN ?_ _) | (with_reducible refine Kd.C_drew ?_))); (case side2 => exact (Kd.R_reads' HO260.out).2.1); (case side3 => repeat (first | exact (Kd.R_reads' HO263.out).2.2 | (with_reducible refine Kd.C_alloc ?_ _) | (with_reducible refine Kd.C_drewN ?_ _) | (with_reducible refine Kd.C_drew ?_))); (case side4 => exact (Kd.R_reads' HO263.out).2.1); rintro e w' ⟨rfl, ⟨nd, rfl⟩⟩) | (go_at_call 26; (with_reducible refine (tripartitelaw07_From.calls kj2 _ _ t251 t265 _ ?side1 ?side2 A21.out).mono ?_); (case side1 => repeat (first | exact (Kd.R_reads' HO253.out).2.2 | (with_reducible refine Kd.C_alloc ?_ _) | (with_reducible refine Kd.C_drewN ?_ _) | (with_reducible refine Kd.C_drew ?_))); (case side2 => exact (Kd.R_reads' HO253.out).2.1); rintro e w54 ⟨v266, rfl, ho0, hb⟩; have n0_ := Aside0.mk (Kd.R_below (by (with_reducible repeat (first | apply Kd.R_alloc | apply Kd.R_drewN | apply Kd.R_drew)); exact HO253.out) hb); have n1_ := Aside0.mk (Kd.R_below (by (with_reducible repeat (first | apply Kd.R_alloc | apply Kd.R_drewN | apply Kd.R_drew)); exact HO256.out) hb); have n2_ := Aside0.mk (Kd.R_elder' (by (with_reducible repeat (first | apply Kd.R_alloc | apply Kd.R_drewN | apply Kd.R_drew)); exact HO260.out) (Kd.R_base ho0) hb); have n3_ := Aside0.mk (Kd.R_elder' (by (with_reducible repeat (first | apply Kd.R_alloc | apply Kd.R_drewN | apply Kd.R_drew)); exact HO263.out) (Kd.R_base ho0) hb); have n4_ := Aside0.mk (Kd.R_lower (Kd.R_new' (Kd.R_new' ho0 (Kd.R_lt (by (with_reducible repeat (first | apply Kd.R_alloc | apply Kd.R_drewN | apply Kd.R_drew)); exact HO260.out))) (Kd.R_lt (by (with_reducible repeat (first | apply Kd.R_alloc | apply Kd.R_drewN | apply Kd.R_drew)); exact HO263.out))) (below_size (by repeat (first | (with_reducible first | exact HB.out | apply below_alloc | apply pw_below_drewN | apply below_drew1) | exact HB.out)))); have n5_ := Aside0.mk (below_step (by repeat (first | (with_reducible first | exact HB.out | apply below_alloc | apply pw_below_drewN | apply below_drew1) | exact HB.out)) hb); clear HO253; clear HO256; clear HO260; clear HO263; clear HB; have HO253 := n0_; have HO256 := n1_; have HO260 := n2_; have HO263 := n3_; have HO267 := n4_; have HB := n5_; clear n0_ n1_ n2_ n3_ n4_ n5_; (try clear hb); (try clear hb2); (try clear hk); (try clear hi); (try clear ho0); obtain ⟨Ao55, co55, eo55⟩ := Kd.R_slice HO267.out; subst eo55) | (go_at_call 25; (with_reducible refine (tripartiteref07_Same.calls kj2 _ _ t265 _ _ l0 true _ ?side1 ?side2 ?side3 ?side4 A22.out).mono ?_); (case side1 => repeat (first | exact (Kd.R_reads' HO267.out).2.2 | (with_reducible refine Kd.C_alloc ?_ _) | (with_reducible refine Kd.C_drewN ?_ _) | (with_reducible refine Kd.C_drew ?_))); (case side2 => exact (Kd.R_reads' HO267.out).2.1); (case side3 => repeat (first | exact (Kd.C_below HR0.out HB.out) | (with_reducible refine Kd.C_alloc ?_ _) | (with_reducible refine Kd.C_drewN ?_ _) | (with_reducible refine Kd.C_drew ?_))); (case side4 => exact HC0.out); rintro e w' ⟨rfl, ⟨nd, rfl⟩⟩) | (go_at_call 23; (with_reducible refine (tripartitelaw07_To.calls kj2 _ _ l1 t269 _ ?side1 ?side2 A24.out).mono ?_); (case side1 => repeat (first | exact (Kd.C_below HR1.out (by repeat (first | (with_reducible first | exact HB.out | apply below_alloc | apply pw_below_drewN | apply below_drew1) | exact HB.out))) | (with_reducible refine Kd.C_alloc ?_ _) | (with_reducible refine Kd.C_drewN ?_ _) | (with_reducible refine Kd.C_drew ?_))); (case side2 => exact HC1.out); rintro e w56 ⟨v270, rfl, ho0, hb⟩; have n0_ := Aside0.mk (Kd.R_elder' (by (with_reducible repeat (first | apply Kd.R_alloc | apply Kd.R_drewN | apply Kd.R_drew)); exact HO253.out) (Kd.R_base ho0) hb); have n1_ := Aside0.mk (Kd.R_elder' (by (with_reducible repeat (first | apply Kd.R_alloc | apply Kd.R_drewN | apply Kd.R_drew)); exact HO256.out) (Kd.R_base ho0) hb); have n2_ := Aside0.mk (Kd.R_below (by (with_reducible repeat (first | apply Kd.R_alloc | apply Kd.R_drewN | apply Kd.R_drew)); exact HO260.out) hb); have n3_ := Aside0.mk (Kd.R_below (by (with_reducible repeat (first | apply Kd.R_alloc | apply Kd.R_drewN | apply Kd.R_drew)); exact HO263.out) hb); have n4_ := Aside0.mk (Kd.R_below (by (with_reducible repeat (first | apply Kd.R_alloc | apply Kd.R_drewN | apply Kd.R_drew)); exact HO267.out) hb); have n5_ := Aside0.mk (Kd.R_lower (Kd.R_new' (Kd.R_new' ho0 (Kd.R_lt (by (with_reducible repeat (first | apply Kd.R_alloc | apply Kd.R_drewN | apply Kd.R_drew)); exact HO253.out))) (Kd.R_lt (by (with_reducible repeat (first | apply Kd.R_alloc | apply Kd.R_drewN | apply Kd.R_drew)); exact HO256.out))) (below_size (by repeat (first | (with_reducible first | exact HB.out | apply below_alloc | apply pw_below_drewN | apply below_drew1) | exact HB.out)))); have n6_ := Aside0.mk (below_step (by repeat (first | (with_reducible first | exact HB.out | apply below_alloc | apply pw_below_drewN | apply below_drew1) | exact HB.out)) hb); clear HO253; clear HO256; clear HO260; clear HO263; clear HO267; clear HB; have HO253 := n0_; have HO256 := n1_; have HO260 := n2_; have HO263 := n3_; have HO267 := n4_; have HO271 := n5_; have HB := n6_; clear n0_ n1_ n2_ n3_ n4_ n5_ n6_; (try clear hb); (try clear hb2); (try clear hk); (try clear hi); (try clear ho0); obtain ⟨Ao57, co57, eo57⟩ := Kd.R_slice HO271.out; subst eo57) | (go_at_call 28; (with_reducible refine (doc_Same.calls kj2 _ _ t251 _ _ t269 t272 _ ?side1 ?side2 ?side3 ?side4 A25.out).mono ?_); (case side1 => repeat (first | exact (Kd.R_reads' HO253.out).2.2 | (with_reducible refine Kd.C_alloc ?_ _) | (with_reducible refine Kd.C_drewN ?_ _) | (with_reducible refine Kd.C_drew ?_))); (case side2 => exact (Kd.R_reads' HO253.out).2.1); (case side3 => repeat (first | exact (Kd.R_reads' HO271.out).2.2 | (with_reducible refine Kd.C_alloc ?_ _) | (with_reducible refine Kd.C_drewN ?_ _) | (with_reducible refine Kd.C_drew ?_))); (case side4 => exact (Kd.R_reads' HO271.out).2.1); rintro e w' ⟨rfl, ⟨nd, rfl⟩⟩) | (go_at_call 25; (with_reducible refine (tripartiteref07_Same.calls kj2 _ _ l0 _ _ l1 t273 _ ?side1 ?side2 ?side3 ?side4 A26.out).mono ?_); (case side1 => repeat (first | exact (Kd.C_below HR0.out (by repeat (first | (with_reducible first | exact HB.out | apply below_alloc | apply pw_below_drewN | apply below_drew1) | exact HB.out))) | (with_reducible refine Kd.C_alloc ?_ _) | (with_reducible refine Kd.C_drewN ?_ _) | (with_reducible refine Kd.C_drew ?_))); (case side2 => exact HC0.out); (case side3 => repeat (first | exact (Kd.C_below HR1.out (by repeat (first | (with_reducible first | exact HB.out | apply below_alloc | apply pw_below_drewN | apply below_drew1) | exact HB.out))) | (with_reducible refine Kd.C_alloc ?_ _) | (with_reducible refine Kd.C_drewN ?_ _) | (with_reducible refine Kd.C_drew ?_))); (case side4 => exact HC1.out); rintro e w' ⟨rfl, ⟨nd, rfl⟩⟩))
                go_ret
                exact ⟨by first | rfl | (simp [errW_none, errW_some] <;> rfl) | (simp [*, errW_none, errW_some] <;> rfl), by repeat (first | (with_reducible first | exact HB.out | apply below_alloc | apply pw_below_drewN | apply below_drew1) | exact HB.out)⟩
            · replace c23 := Bool.eq_false_iff.mpr c23
              subst c23
              have H1 : (some false) = some r := by rw [if_neg (show ¬ (false = true) by decide)] at H; exact H
              clear H
              have H := H1
              clear H1
              obtain rfl := Option.some.inj H
              go_wp2_with (first | ((with_reducible refine gate_callee (f := 23) rfl ?_); refine goesL_ (some 17) rfl rfl Try.func23 (by kernel_rfl) rfl #[.slice A0 l0.length c0] rfl (by (try simp only [List.map_toArray, List.map_cons, List.map_nil]); first | done | rfl | (simp only [List.length_drop, List.length_take]; rfl)) ?_; (with_reducible refine (tripartitelaw07_To.calls kj2 _ _ l0 t251 _ ?side1 ?side2 A13.out).mono ?_); (case side1 => repeat (first | exact (Kd.C_below HR0.out HB.out) | (with_reducible refine Kd.C_alloc ?_ _) | (with_reducible refine Kd.C_drewN ?_ _) | (with_reducible refine Kd.C_drew ?_))); (case side2 => exact HC0.out); rintro e w58 ⟨v252, rfl, ho0, hb⟩; refine ⟨_, rfl, ?_⟩; have n0_ := Aside0.mk (Kd.R_lower ho0 (below_size (by repeat (first | (with_reducible first | exact HB.out | apply below_alloc | apply pw_below_drewN | apply below_drew1) | exact HB.out)))); have n1_ := Aside0.mk (below_step (by repeat (first | (with_reducible first | exact HB.out | apply below_alloc | apply pw_below_drewN | apply below_drew1) | exact HB.out)) hb); clear HB; have HO253 := n0_; have HB := n1_; clear n0_ n1_; (try clear hb); (try clear hb2); (try clear hk); (try clear hi); (try clear ho0); obtain ⟨Ao59, co59, eo59⟩ := Kd.R_slice HO253.out; subst eo59) | ((with_reducible refine gate_callee (f := 24) rfl ?_); refine goesL_ (some 19) rfl rfl Try.func24 (by kernel_rfl) rfl #[.slice Ao59 t251.length co59] rfl (by (try simp only [List.map_toArray, List.map_cons, List.map_nil]); first | done | rfl | (simp only [List.length_drop, List.length_take]; rfl)) ?_; (with_reducible refine (doc_Of.calls kj2 _ _ t251 t254 _ ?side1 ?side2 A14.out).mono ?_); (case side1 => repeat (first | exact (Kd.R_reads' HO253.out).2.2 | (with_reducible refine Kd.C_alloc ?_ _) | (with_reducible refine Kd.C_drewN ?_ _) | (with_reducible refine Kd.C_drew ?_))); (case side2 => exact (Kd.R_reads' HO253.out).2.1); rintro e w60 ⟨v255, rfl, ho0, hb⟩; refine ⟨_, rfl, ?_⟩; have n0_ := Aside0.mk (Kd.R_elder' (by (with_reducible repeat (first | apply Kd.R_alloc | apply Kd.R_drewN | apply Kd.R_drew)); exact HO253.out) (Kd.R_base ho0) hb); have n1_ := Aside0.mk (Kd.R_lower (Kd.R_new' ho0 (Kd.R_lt (by (with_reducible repeat (first | apply Kd.R_alloc | apply Kd.R_drewN | apply Kd.R_drew)); exact HO253.out))) (below_size (by repeat (first | (with_reducible first | exact HB.out | apply below_alloc | apply pw_below_drewN | apply below_drew1) | exact HB.out)))); have n2_ := Aside0.mk (below_step (by repeat (first | (with_reducible first | exact HB.out | apply below_alloc | apply pw_below_drewN | apply below_drew1) | exact HB.out)) hb); clear HO253; clear HB; have HO253 := n0_; have HO256 := n1_; have HB := n2_; clear n0_ n1_ n2_; (try clear hb); (try clear hb2); (try clear hk); (try clear hi); (try clear ho0)) | ((with_reducible refine gate_callee (f := 20) rfl ?_); refine goesL_ (some 20) rfl rfl Try.func20 (by kernel_rfl) rfl #[] rfl (by (try simp only [List.map_toArray, List.map_cons, List.map_nil]); first | done | rfl | (simp only [List.length_drop, List.length_take]; rfl)) ?_; (with_reducible refine (tripartitelaw07_told.calls kj2  true _ A15.out).mono ?_); rintro e w61 ⟨rfl, hb⟩; refine ⟨_, rfl, ?_⟩; have n0_ := Aside0.mk (Kd.R_below (by (with_reducible repeat (first | apply Kd.R_alloc | apply Kd.R_drewN | apply Kd.R_drew)); exact HO253.out) hb); have n1_ := Aside0.mk (Kd.R_below (by (with_reducible repeat (first | apply Kd.R_alloc | apply Kd.R_drewN | apply Kd.R_drew)); exact HO256.out) hb); have n2_ := Aside0.mk (below_step (by repeat (first | (with_reducible first | exact HB.out | apply below_alloc | apply pw_below_drewN | apply below_drew1) | exact HB.out)) hb); clear HO253; clear HO256; clear HB; have HO253 := n0_; have HO256 := n1_; have HB := n2_; clear n0_ n1_ n2_; (try clear hb); (try clear hb2); (try clear hk); (try clear hi); obtain ⟨Ao62, co62, eo62⟩ := Kd.R_slice HO256.out; subst eo62) | (go_at_call 26; (with_reducible refine (tripartitelaw07_From.calls kj2 _ _ t254 t258 _ ?side1 ?side2 A17.out).mono ?_); (case side1 => repeat (first | exact (Kd.R_reads' HO256.out).2.2 | (with_reducible refine Kd.C_alloc ?_ _) | (with_reducible refine Kd.C_drewN ?_ _) | (with_reducible refine Kd.C_drew ?_))); (case side2 => exact (Kd.R_reads' HO256.out).2.1); rintro e w63 ⟨v259, rfl, ho0, hb⟩; have n0_ := Aside0.mk (Kd.R_below (by (with_reducible repeat (first | apply Kd.R_alloc | apply Kd.R_drewN | apply Kd.R_drew)); exact HO253.out) hb); have n1_ := Aside0.mk (Kd.R_below (by (with_reducible repeat (first | apply Kd.R_alloc | apply Kd.R_drewN | apply Kd.R_drew)); exact HO256.out) hb); have n2_ := Aside0.mk (Kd.R_lower ho0 (below_size (by repeat (first | (with_reducible first | exact HB.out | apply below_alloc | apply pw_below_drewN | apply below_drew1) | exact HB.out)))); have n3_ := Aside0.mk (below_step (by repeat (first | (with_reducible first | exact HB.out | apply below_alloc | apply pw_below_drewN | apply below_drew1) | exact HB.out)) hb); clear HO253; clear HO256; clear HB; have HO253 := n0_; have HO256 := n1_; have HO260 := n2_; have HB := n3_; clear n0_ n1_ n2_ n3_; (try clear hb); (try clear hb2); (try clear hk); (try clear hi); (try clear ho0)) | (go_at_call 27; (with_reducible refine (tripartiteref07_Of.calls kj2 _ _ l0 t261 _ ?side1 ?side2 A18.out).mono ?_); (case side1 => repeat (first | exact (Kd.C_below HR0.out HB.out) | (with_reducible refine Kd.C_alloc ?_ _) | (with_reducible refine Kd.C_drewN ?_ _) | (with_reducible refine Kd.C_drew ?_))); (case side2 => exact HC0.out); rintro e w64 ⟨v262, rfl, ho0, hb⟩; have n0_ := Aside0.mk (Kd.R_below (by (with_reducible repeat (first | apply Kd.R_alloc | apply Kd.R_drewN | apply Kd.R_drew)); exact HO253.out) hb); have n1_ := Aside0.mk (Kd.R_below (by (with_reducible repeat (first | apply Kd.R_alloc | apply Kd.R_drewN | apply Kd.R_drew)); exact HO256.out) hb); have n2_ := Aside0.mk (Kd.R_elder' (by (with_reducible repeat (first | apply Kd.R_alloc | apply Kd.R_drewN | apply Kd.R_drew)); exact HO260.out) (Kd.R_base ho0) hb); have n3_ := Aside0.mk (Kd.R_lower (Kd.R_new' ho0 (Kd.R_lt (by (with_reducible repeat (first | apply Kd.R_alloc | apply Kd.R_drewN | apply Kd.R_drew)); exact HO260.out))) (below_size (by repeat (first | (with_reducible first | exact HB.out | apply below_alloc | apply pw_below_drewN | apply below_drew1) | exact HB.out)))); have n4_ := Aside0.mk (below_step (by repeat (first | (with_reducible first | exact HB.out | apply below_alloc | apply pw_below_drewN | apply below_drew1) | exact HB.out)) hb); clear HO253; clear HO256; clear HO260; clear HB; have HO253 := n0_; have HO256 := n1_; have HO260 := n2_; have HO263 := n3_; have HB := n4_; clear n0_ n1_ n2_ n3_ n4_; (try clear hb); (try clear hb2); (try clear hk); (try clear hi); (try clear ho0); obtain ⟨Ao65, co65, eo65⟩ := Kd.R_slice HO260.out; subst eo65; obtain ⟨Ao66, co66, eo66⟩ := Kd.R_slice HO263.out; subst eo66) | (go_at_call 25; (with_reducible refine (tripartiteref07_Same.calls kj2 _ _ t258 _ _ t261 true _ ?side1 ?side2 ?side3 ?side4 A19.out).mono ?_); (case side1 => repeat (first | exact (Kd.R_reads' HO260.out).2.2 | (with_reducible refine Kd.C_alloc ?_ _) | (with_reducible refine Kd.C_drewN ?_ _) | (with_reducible refine Kd.C_drew ?_))); (case side2 => exact (Kd.R_reads' HO260.out).2.1); (case side3 => repeat (first | exact (Kd.R_reads' HO263.out).2.2 | (with_reducible refine Kd.C_alloc ?_ _) | (with_reducible refine Kd.C_drewN ?_ _) | (with_reducible refine Kd.C_drew ?_))); (case side4 => exact (Kd.R_reads' HO263.out).2.1); rintro e w' ⟨rfl, ⟨nd, rfl⟩⟩) | (go_at_call 26; (with_reducible refine (tripartitelaw07_From.calls kj2 _ _ t251 t265 _ ?side1 ?side2 A21.out).mono ?_); (case side1 => repeat (first | exact (Kd.R_reads' HO253.out).2.2 | (with_reducible refine Kd.C_alloc ?_ _) | (with_reducible refine Kd.C_drewN ?_ _) | (with_reducible refine Kd.C_drew ?_))); (case side2 => exact (Kd.R_reads' HO253.out).2.1); rintro e w67 ⟨v266, rfl, ho0, hb⟩; have n0_ := Aside0.mk (Kd.R_below (by (with_reducible repeat (first | apply Kd.R_alloc | apply Kd.R_drewN | apply Kd.R_drew)); exact HO253.out) hb); have n1_ := Aside0.mk (Kd.R_below (by (with_reducible repeat (first | apply Kd.R_alloc | apply Kd.R_drewN | apply Kd.R_drew)); exact HO256.out) hb); have n2_ := Aside0.mk (Kd.R_elder' (by (with_reducible repeat (first | apply Kd.R_alloc | apply Kd.R_drewN | apply Kd.R_drew)); exact HO260.out) (Kd.R_base ho0) hb); have n3_ := Aside0.mk (Kd.R_elder' (by (with_reducible repeat (first | apply Kd.R_alloc | apply Kd.R_drewN | apply Kd.R_drew)); exact HO263.out) (Kd.R_base ho0) hb); have n4_ := Aside0.mk (Kd.R_lower (Kd.R_new' (Kd.R_new' ho0 (Kd.R_lt (by (with_reducible repeat (first | apply Kd.R_alloc | apply Kd.R_drewN | apply Kd.R_drew)); exact HO260.out))) (Kd.R_lt (by (with_reducible repeat (first | apply Kd.R_alloc | apply Kd.R_drewN | apply Kd.R_drew)); exact HO263.out))) (below_size (by repeat (first | (with_reducible first | exact HB.out | apply below_alloc | apply pw_below_drewN | apply below_drew1) | exact HB.out)))); have n5_ := Aside0.mk (below_step (by repeat (first | (with_reducible first | exact HB.out | apply below_alloc | apply pw_below_drewN | apply below_drew1) | exact HB.out)) hb); clear HO253; clear HO256; clear HO260; clear HO263; clear HB; have HO253 := n0_; have HO256 := n1_; have HO260 := n2_; have HO263 := n3_; have HO267 := n4_; have HB := n5_; clear n0_ n1_ n2_ n3_ n4_ n5_; (try clear hb); (try clear hb2); (try clear hk); (try clear hi); (try clear ho0); obtain ⟨Ao68, co68, eo68⟩ := Kd.R_slice HO267.out; subst eo68) | (go_at_call 25; (with_reducible refine (tripartiteref07_Same.calls kj2 _ _ t265 _ _ l0 false _ ?side1 ?side2 ?side3 ?side4 A22.out).mono ?_); (case side1 => repeat (first | exact (Kd.R_reads' HO267.out).2.2 | (with_reducible refine Kd.C_alloc ?_ _) | (with_reducible refine Kd.C_drewN ?_ _) | (with_reducible refine Kd.C_drew ?_))); (case side2 => exact (Kd.R_reads' HO267.out).2.1); (case side3 => repeat (first | exact (Kd.C_below HR0.out HB.out) | (with_reducible refine Kd.C_alloc ?_ _) | (with_reducible refine Kd.C_drewN ?_ _) | (with_reducible refine Kd.C_drew ?_))); (case side4 => exact HC0.out); rintro e w' ⟨rfl, ⟨nd, rfl⟩⟩))
              go_ret
              exact ⟨by first | rfl | (simp [errW_none, errW_some] <;> rfl) | (simp [*, errW_none, errW_some] <;> rfl), by repeat (first | (with_reducible first | exact HB.out | apply below_alloc | apply pw_below_drewN | apply below_drew1) | exact HB.out)⟩
          · replace c20 := Bool.eq_false_iff.mpr c20
            subst c20
            have H1 : (some false) = some r := by rw [if_neg (show ¬ (false = true) by decide)] at H; exact H
            clear H
            have H := H1
            clear H1
            obtain rfl := Option.some.inj H
            go_wp2_with (first | ((with_reducible refine gate_callee (f := 23) rfl ?_); refine goesL_ (some 17) rfl rfl Try.func23 (by kernel_rfl) rfl #[.slice A0 l0.length c0] rfl (by (try simp only [List.map_toArray, List.map_cons, List.map_nil]); first | done | rfl | (simp only [List.length_drop, List.length_take]; rfl)) ?_; (with_reducible refine (tripartitelaw07_To.calls kj2 _ _ l0 t251 _ ?side1 ?side2 A13.out).mono ?_); (case side1 => repeat (first | exact (Kd.C_below HR0.out HB.out) | (with_reducible refine Kd.C_alloc ?_ _) | (with_reducible refine Kd.C_drewN ?_ _) | (with_reducible refine Kd.C_drew ?_))); (case side2 => exact HC0.out); rintro e w69 ⟨v252, rfl, ho0, hb⟩; refine ⟨_, rfl, ?_⟩; have n0_ := Aside0.mk (Kd.R_lower ho0 (below_size (by repeat (first | (with_reducible first | exact HB.out | apply below_alloc | apply pw_below_drewN | apply below_drew1) | exact HB.out)))); have n1_ := Aside0.mk (below_step (by repeat (first | (with_reducible first | exact HB.out | apply below_alloc | apply pw_below_drewN | apply below_drew1) | exact HB.out)) hb); clear HB; have HO253 := n0_; have HB := n1_; clear n0_ n1_; (try clear hb); (try clear hb2); (try clear hk); (try clear hi); (try clear ho0); obtain ⟨Ao70, co70, eo70⟩ := Kd.R_slice HO253.out; subst eo70) | ((with_reducible refine gate_callee (f := 24) rfl ?_); refine goesL_ (some 19) rfl rfl Try.func24 (by kernel_rfl) rfl #[.slice Ao70 t251.length co70] rfl (by (try simp only [List.map_toArray, List.map_cons, List.map_nil]); first | done | rfl | (simp only [List.length_drop, List.length_take]; rfl)) ?_; (with_reducible refine (doc_Of.calls kj2 _ _ t251 t254 _ ?side1 ?side2 A14.out).mono ?_); (case side1 => repeat (first | exact (Kd.R_reads' HO253.out).2.2 | (with_reducible refine Kd.C_alloc ?_ _) | (with_reducible refine Kd.C_drewN ?_ _) | (with_reducible refine Kd.C_drew ?_))); (case side2 => exact (Kd.R_reads' HO253.out).2.1); rintro e w71 ⟨v255, rfl, ho0, hb⟩; refine ⟨_, rfl, ?_⟩; have n0_ := Aside0.mk (Kd.R_elder' (by (with_reducible repeat (first | apply Kd.R_alloc | apply Kd.R_drewN | apply Kd.R_drew)); exact HO253.out) (Kd.R_base ho0) hb); have n1_ := Aside0.mk (Kd.R_lower (Kd.R_new' ho0 (Kd.R_lt (by (with_reducible repeat (first | apply Kd.R_alloc | apply Kd.R_drewN | apply Kd.R_drew)); exact HO253.out))) (below_size (by repeat (first | (with_reducible first | exact HB.out | apply below_alloc | apply pw_below_drewN | apply below_drew1) | exact HB.out)))); have n2_ := Aside0.mk (below_step (by repeat (first | (with_reducible first | exact HB.out | apply below_alloc | apply pw_below_drewN | apply below_drew1) | exact HB.out)) hb); clear HO253; clear HB; have HO253 := n0_; have HO256 := n1_; have HB := n2_; clear n0_ n1_ n2_; (try clear hb); (try clear hb2); (try clear hk); (try clear hi); (try clear ho0)) | ((with_reducible refine gate_callee (f := 20) rfl ?_); refine goesL_ (some 20) rfl rfl Try.func20 (by kernel_rfl) rfl #[] rfl (by (try simp only [List.map_toArray, List.map_cons, List.map_nil]); first | done | rfl | (simp only [List.length_drop, List.length_take]; rfl)) ?_; (with_reducible refine (tripartitelaw07_told.calls kj2  true _ A15.out).mono ?_); rintro e w72 ⟨rfl, hb⟩; refine ⟨_, rfl, ?_⟩; have n0_ := Aside0.mk (Kd.R_below (by (with_reducible repeat (first | apply Kd.R_alloc | apply Kd.R_drewN | apply Kd.R_drew)); exact HO253.out) hb); have n1_ := Aside0.mk (Kd.R_below (by (with_reducible repeat (first | apply Kd.R_alloc | apply Kd.R_drewN | apply Kd.R_drew)); exact HO256.out) hb); have n2_ := Aside0.mk (below_step (by repeat (first | (with_reducible first | exact HB.out | apply below_alloc | apply pw_below_drewN | apply below_drew1) | exact HB.out)) hb); clear HO253; clear HO256; clear HB; have HO253 := n0_; have HO256 := n1_; have HB := n2_; clear n0_ n1_ n2_; (try clear hb); (try clear hb2); (try clear hk); (try clear hi); obtain ⟨Ao73, co73, eo73⟩ := Kd.R_slice HO256.out; subst eo73) | (go_at_call 26; (with_reducible refine (tripartitelaw07_From.calls kj2 _ _ t254 t258 _ ?side1 ?side2 A17.out).mono ?_); (case side1 => repeat (first | exact (Kd.R_reads' HO256.out).2.2 | (with_reducible refine Kd.C_alloc ?_ _) | (with_reducible refine Kd.C_drewN ?_ _) | (with_reducible refine Kd.C_drew ?_))); (case side2 => exact (Kd.R_reads' HO256.out).2.1); rintro e w74 ⟨v259, rfl, ho0, hb⟩; have n0_ := Aside0.mk (Kd.R_below (by (with_reducible repeat (first | apply Kd.R_alloc | apply Kd.R_drewN | apply Kd.R_drew)); exact HO253.out) hb); have n1_ := Aside0.mk (Kd.R_below (by (with_reducible repeat (first | apply Kd.R_alloc | apply Kd.R_drewN | apply Kd.R_drew)); exact HO256.out) hb); have n2_ := Aside0.mk (Kd.R_lower ho0 (below_size (by repeat (first | (with_reducible first | exact HB.out | apply below_alloc | apply pw_below_drewN | apply below_drew1) | exact HB.out)))); have n3_ := Aside0.mk (below_step (by repeat (first | (with_reducible first | exact HB.out | apply below_alloc | apply pw_below_drewN | apply below_drew1) | exact HB.out)) hb); clear HO253; clear HO256; clear HB; have HO253 := n0_; have HO256 := n1_; have HO260 := n2_; have HB := n3_; clear n0_ n1_ n2_ n3_; (try clear hb); (try clear hb2); (try clear hk); (try clear hi); (try clear ho0)) | (go_at_call 27; (with_reducible refine (tripartiteref07_Of.calls kj2 _ _ l0 t261 _ ?side1 ?side2 A18.out).mono ?_); (case side1 => repeat (first | exact (Kd.C_below HR0.out HB.out) | (with_reducible refine Kd.C_alloc ?_ _) | (with_reducible refine Kd.C_drewN ?_ _) | (with_reducible refine Kd.C_drew ?_))); (case side2 => exact HC0.out); rintro e w75 ⟨v262, rfl, ho0, hb⟩; have n0_ := Aside0.mk (Kd.R_below (by (with_reducible repeat (first | apply Kd.R_alloc | apply Kd.R_drewN | apply Kd.R_drew)); exact HO253.out) hb); have n1_ := Aside0.mk (Kd.R_below (by (with_reducible repeat (first | apply Kd.R_alloc | apply Kd.R_drewN | apply Kd.R_drew)); exact HO256.out) hb); have n2_ := Aside0.mk (Kd.R_elder' (by (with_reducible repeat (first | apply Kd.R_alloc | apply Kd.R_drewN | apply Kd.R_drew)); exact HO260.out) (Kd.R_base ho0) hb); have n3_ := Aside0.mk (Kd.R_lower (Kd.R_new' ho0 (Kd.R_lt (by (with_reducible repeat (first | apply Kd.R_alloc | apply Kd.R_drewN | apply Kd.R_drew)); exact HO260.out))) (below_size (by repeat (first | (with_reducible first | exact HB.out | apply below_alloc | apply pw_below_drewN | apply below_drew1) | exact HB.out)))); have n4_ := Aside0.mk (below_step (by repeat (first | (with_reducible first | exact HB.out | apply below_alloc | apply pw_below_drewN | apply below_drew1) | exact HB.out)) hb); clear HO253; clear HO256; clear HO260; clear HB; have HO253 := n0_; have HO256 := n1_; have HO260 := n2_; have HO263 := n3_; have HB := n4_; clear n0_ n1_ n2_ n3_ n4_; (try clear hb); (try clear hb2); (try clear hk); (try clear hi); (try clear ho0); obtain ⟨Ao76, co76, eo76⟩ := Kd.R_slice HO260.out; subst eo76; obtain ⟨Ao77, co77, eo77⟩ := Kd.R_slice HO263.out; subst eo77) | (go_at_call 25; (with_reducible refine (tripartiteref07_Same.calls kj2 _ _ t258 _ _ t261 false _ ?side1 ?side2 ?side3 ?side4 A19.out).mono ?_); (case side1 => repeat (first | exact (Kd.R_reads' HO260.out).2.2 | (with_reducible refine Kd.C_alloc ?_ _) | (with_reducible refine Kd.C_drewN ?_ _) | (with_reducible refine Kd.C_drew ?_))); (case side2 => exact (Kd.R_reads' HO260.out).2.1); (case side3 => repeat (first | exact (Kd.R_reads' HO263.out).2.2 | (with_reducible refine Kd.C_alloc ?_ _) | (with_reducible refine Kd.C_drewN ?_ _) | (with_reducible refine Kd.C_drew ?_))); (case side4 => exact (Kd.R_reads' HO263.out).2.1); rintro e w' ⟨rfl, ⟨nd, rfl⟩⟩))
            go_ret
            exact ⟨by first | rfl | (simp [errW_none, errW_some] <;> rfl) | (simp [*, errW_none, errW_some] <;> rfl), by repeat (first | (with_reducible first | exact HB.out | apply below_alloc | apply pw_below_drewN | apply below_drew1) | exact HB.out)⟩
        · replace c16 := Bool.eq_false_iff.mpr c16
          subst c16
          have H1 : (some false) = some r := by rw [if_neg (show ¬ (false = true) by decide)] at H; exact H
          clear H
          have H := H1
          clear H1
          obtain rfl := Option.some.inj H
          go_wp2_with (first | ((with_reducible refine gate_callee (f := 23) rfl ?_); refine goesL_ (some 17) rfl rfl Try.func23 (by kernel_rfl) rfl #[.slice A0 l0.length c0] rfl (by (try simp only [List.map_toArray, List.map_cons, List.map_nil]); first | done | rfl | (simp only [List.length_drop, List.length_take]; rfl)) ?_; (with_reducible refine (tripartitelaw07_To.calls kj2 _ _ l0 t251 _ ?side1 ?side2 A13.out).mono ?_); (case side1 => repeat (first | exact (Kd.C_below HR0.out HB.out) | (with_reducible refine Kd.C_alloc ?_ _) | (with_reducible refine Kd.C_drewN ?_ _) | (with_reducible refine Kd.C_drew ?_))); (case side2 => exact HC0.out); rintro e w78 ⟨v252, rfl, ho0, hb⟩; refine ⟨_, rfl, ?_⟩; have n0_ := Aside0.mk (Kd.R_lower ho0 (below_size (by repeat (first | (with_reducible first | exact HB.out | apply below_alloc | apply pw_below_drewN | apply below_drew1) | exact HB.out)))); have n1_ := Aside0.mk (below_step (by repeat (first | (with_reducible first | exact HB.out | apply below_alloc | apply pw_below_drewN | apply below_drew1) | exact HB.out)) hb); clear HB; have HO253 := n0_; have HB := n1_; clear n0_ n1_; (try clear hb); (try clear hb2); (try clear hk); (try clear hi); (try clear ho0); obtain ⟨Ao79, co79, eo79⟩ := Kd.R_slice HO253.out; subst eo79) | ((with_reducible refine gate_callee (f := 24) rfl ?_); refine goesL_ (some 19) rfl rfl Try.func24 (by kernel_rfl) rfl #[.slice Ao79 t251.length co79] rfl (by (try simp only [List.map_toArray, List.map_cons, List.map_nil]); first | done | rfl | (simp only [List.length_drop, List.length_take]; rfl)) ?_; (with_reducible refine (doc_Of.calls kj2 _ _ t251 t254 _ ?side1 ?side2 A14.out).mono ?_); (case side1 => repeat (first | exact (Kd.R_reads' HO253.out).2.2 | (with_reducible refine Kd.C_alloc ?_ _) | (with_reducible refine Kd.C_drewN ?_ _) | (with_reducible refine Kd.C_drew ?_))); (case side2 => exact (Kd.R_reads' HO253.out).2.1); rintro e w80 ⟨v255, rfl, ho0, hb⟩; refine ⟨_, rfl, ?_⟩; have n0_ := Aside0.mk (Kd.R_elder' (by (with_reducible repeat (first | apply Kd.R_alloc | apply Kd.R_drewN | apply Kd.R_drew)); exact HO253.out) (Kd.R_base ho0) hb); have n1_ := Aside0.mk (Kd.R_lower (Kd.R_new' ho0 (Kd.R_lt (by (with_reducible repeat (first | apply Kd.R_alloc | apply Kd.R_drewN | apply Kd.R_drew)); exact HO253.out))) (below_size (by repeat (first | (with_reducible first | exact HB.out | apply below_alloc | apply pw_below_drewN | apply below_drew1) | exact HB.out)))); have n2_ := Aside0.mk (below_step (by repeat (first | (with_reducible first | exact HB.out | apply below_alloc | apply pw_below_drewN | apply below_drew1) | exact HB.out)) hb); clear HO253; clear HB; have HO253 := n0_; have HO256 := n1_; have HB := n2_; clear n0_ n1_ n2_; (try clear hb); (try clear hb2); (try clear hk); (try clear hi); (try clear ho0)) | ((with_reducible refine gate_callee (f := 20) rfl ?_); refine goesL_ (some 20) rfl rfl Try.func20 (by kernel_rfl) rfl #[] rfl (by (try simp only [List.map_toArray, List.map_cons, List.map_nil]); first | done | rfl | (simp only [List.length_drop, List.length_take]; rfl)) ?_; (with_reducible refine (tripartitelaw07_told.calls kj2  false _ A15.out).mono ?_); rintro e w81 ⟨rfl, hb⟩; refine ⟨_, rfl, ?_⟩; have n0_ := Aside0.mk (Kd.R_below (by (with_reducible repeat (first | apply Kd.R_alloc | apply Kd.R_drewN | apply Kd.R_drew)); exact HO253.out) hb); have n1_ := Aside0.mk (Kd.R_below (by (with_reducible repeat (first | apply Kd.R_alloc | apply Kd.R_drewN | apply Kd.R_drew)); exact HO256.out) hb); have n2_ := Aside0.mk (below_step (by repeat (first | (with_reducible first | exact HB.out | apply below_alloc | apply pw_below_drewN | apply below_drew1) | exact HB.out)) hb); clear HO253; clear HO256; clear HB; have HO253 := n0_; have HO256 := n1_; have HB := n2_; clear n0_ n1_ n2_; (try clear hb); (try clear hb2); (try clear hk); (try clear hi)))
          go_ret
          exact ⟨by first | rfl | (simp [errW_none, errW_some] <;> rfl) | (simp [*, errW_none, errW_some] <;> rfl), by repeat (first | (with_reducible first | exact HB.out | apply below_alloc | apply pw_below_drewN | apply below_drew1) | exact HB.out)⟩
end Go.Proofs.Ytfiamddinkokbaa.F
end
