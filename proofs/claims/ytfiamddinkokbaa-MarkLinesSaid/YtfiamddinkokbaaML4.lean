/- Texts joined into one file (wip/tools/pack.py): Big9, Big12 -/
import Derived.Test.YtfiamddinkokbaaML1
import Derived.Test.YtfiamddinkokbaaML3
import Derived.Test.YtfiamddinkokbaaML2
section
set_option linter.unusedVariables false
set_option linter.unusedSimpArgs false
namespace Go.Proofs.Ytfiamddinkokbaa.F
open Go.RowKit Go.Proofs.YtfiamddinkokbaaW.PrintWords Go.Proofs.YtfiamddinkokbaaW.PrintLast Go.Proofs.YtfiamddinkokbaaW.PrintMore
attribute [local go_sem] max2_int min2_int max_two min_two max_three min_three max_four min_four
set_option linter.unusedVariables false
set_option linter.unusedSimpArgs false
attribute [local go_sem high] eqA60
def tripartitelaw08_MarkLinesG.j0 : Nat → Int → ByteArray → Int → Bool → Int → Bool → ByteArray → Option (Bool)
  | 0, _, _, _, _, _, _, _ => none
  | k + 1, x5, x6, x7, x47, x457000, x457001, x457002 => if x47 = true then (some false) else (if x7 = 0 then ((mark_Read.f k x6 x5).bind fun bt466 => (if bt466.2.2.2.1 = true then (if bt466.2.2.2.2 = 0 then ((tripartitelaw08_From.f bt466.1 bt466.2.1 bt466.2.2.1).bind fun bt472 => (some (bt472.1 == x457000 && (bt472.2.1 == x457001 && (bt472.2.2.toList == x457002.toList))))) else (some false)) else (some false))) else (some true))
def tripartitelaw08_MarkLinesG.f (k : Nat) (a0_0 : Int) (a0_1 : Bool) (a0_2 : ByteArray) (a1 : Int) : Option (Bool) := if 0 ≤ (mn (a0_2.size : Int) 200) then (if (mn (a0_2.size : Int) 200) ≤ (a0_2.size : Int) then ((tripartitelaw08_narrow.f a1).bind fun t457 => ((tripartitelaw08_To.f a0_0 a0_1 (a0_2.extract 0 ((mn (a0_2.size : Int) 200) : Int).toNat)).bind fun bt458 => ((mark_LineG.f bt458.1 bt458.2.1 bt458.2.2 t457).bind fun bt461 => ((tripartiteref08_Line.f k a0_0 a0_1 (a0_2.extract 0 ((mn (a0_2.size : Int) 200) : Int).toNat) t457).bind fun bt463 => ((tripartitelaw08_told.f k).bind fun t465 => (if t465 = true then (if bt461.1.toList = bt463.1.toList then (tripartitelaw08_MarkLinesG.j0 k t457 bt461.1 bt461.2 (bt461.2 != bt463.2) a0_0 a0_1 (a0_2.extract 0 ((mn (a0_2.size : Int) 200) : Int).toNat)) else (tripartitelaw08_MarkLinesG.j0 k t457 bt461.1 bt461.2 true a0_0 a0_1 (a0_2.extract 0 ((mn (a0_2.size : Int) 200) : Int).toNat))) else (tripartitelaw08_MarkLinesG.j0 k t457 bt461.1 bt461.2 true a0_0 a0_1 (a0_2.extract 0 ((mn (a0_2.size : Int) 200) : Int).toNat)))))))) else (none)) else (none)
theorem tripartitelaw08_MarkLinesG.mono_l : ∀ k, (∀ y0 y1 y2 y3 y4 y5 y6, LeO (tripartitelaw08_MarkLinesG.j0 k y0 y1 y2 y3 y4 y5 y6) (tripartitelaw08_MarkLinesG.j0 (k + 1) y0 y1 y2 y3 y4 y5 y6))
  | 0 => fun _ _ _ _ _ _ _ r h => by simp [tripartitelaw08_MarkLinesG.j0] at h
  | k + 1 => by
    have ih0 := tripartitelaw08_MarkLinesG.mono_l k
    · intro y0 y1 y2 y3 y4 y5 y6
      unfold tripartitelaw08_MarkLinesG.j0
      repeat' first
      | (with_reducible exact ih0 _ _ _ _ _ _ _)
      | (with_reducible exact mark_Read.mono _ _ _)
      | (with_reducible exact tripartitelaw08_told.mono _)
      | (with_reducible exact tripartiteref08_Line.mono _ _ _ _ _)
      | (with_reducible exact LeO.refl _)
      | (with_reducible exact LeO.none _)
      | (with_reducible refine LeO.ite ?_ ?_)
      | (with_reducible refine LeO.bind ?_ (fun _ => ?_))
      | exact ih0 _ _ _ _ _ _ _
      | exact mark_Read.mono _ _ _
      | exact tripartitelaw08_told.mono _
      | exact tripartiteref08_Line.mono _ _ _ _ _
      | exact LeO.none _
      | refine LeO.ite ?_ ?_
      | refine LeO.bind ?_ (fun _ => ?_)
theorem tripartitelaw08_MarkLinesG.mono : ∀ a0 a1 a2 a3 k, LeO (tripartitelaw08_MarkLinesG.f k a0 a1 a2 a3) (tripartitelaw08_MarkLinesG.f (k + 1) a0 a1 a2 a3) := by
  intro a0 a1 a2 a3 k
  have ih0 := tripartitelaw08_MarkLinesG.mono_l k
  unfold tripartitelaw08_MarkLinesG.f
  repeat' first
      | (with_reducible exact ih0 _ _ _ _ _ _ _)
      | (with_reducible exact mark_Read.mono _ _ _)
      | (with_reducible exact tripartitelaw08_told.mono _)
      | (with_reducible exact tripartiteref08_Line.mono _ _ _ _ _)
      | (with_reducible exact LeO.refl _)
      | (with_reducible exact LeO.none _)
      | (with_reducible refine LeO.ite ?_ ?_)
      | (with_reducible refine LeO.bind ?_ (fun _ => ?_))
      | exact ih0 _ _ _ _ _ _ _
      | exact mark_Read.mono _ _ _
      | exact tripartitelaw08_told.mono _
      | exact tripartiteref08_Line.mono _ _ _ _ _
      | exact LeO.none _
      | refine LeO.ite ?_ ?_
      | refine LeO.bind ?_ (fun _ => ?_)
def tripartitelaw08_MarkLinesG.T10 : Bool × List (List Nat × List Nat) := (true, [([], []), ([0], [0]), ([1], [1]), ([2, 1], [1, 2]), ([1, 3], [1, 3]), ([4, 1], [4]), ([5], [5]), ([6, 5, 5], [5, 6]), ([5], [5]), ([7, 8, 5], [5, 7, 8]), ([5, 9], [5, 9]), ([10, 7, 0, 1, 2, 3, 4, 5, 6, 7, 8, 9, 10], [10])])
def tripartitelaw08_MarkLinesG.B10 : List Nat := [0, 1, 3, 7, 15, 31, 63, 127, 63, 511, 1023, 2047]
theorem tripartitelaw08_MarkLinesG.tab10 : rtab .any (opsOf Try.f9 10) = tripartitelaw08_MarkLinesG.T10 := by kernel_rfl
theorem tripartitelaw08_MarkLinesG.bits10 : waitsOk tripartitelaw08_MarkLinesG.T10.2 tripartitelaw08_MarkLinesG.B10 = true := by kernel_rfl
set_option maxHeartbeats 8000000 in
set_option maxRecDepth 100000 in
theorem tripartitelaw08_MarkLinesG.calls (k : Nat) (a0_0 : Int) (a0_1 : Bool) (a0_2 : ByteArray) (a1 : Int) (r : Bool) (w : World) (mG : Int) (hmG : w.cell? ⟨0, 0, none⟩ = some (.int .i64 mG)) (h : tripartitelaw08_MarkLinesG.f k a0_0 a0_1 a0_2 a1 = some r) :
    Calls Try.prog 9 #[.agg #[.int .u8 a0_0, .bool a0_1, .string a0_2], .int .i64 a1] w fun e w' => e = .returned (.bool r) ∧ Below w.heap.size w w' := by
  have HM := Aside0.mk hmG
  clear hmG
  have hu60 := Try.underlying60
  have hu62 := Try.underlying62
  have HB := Aside0.mk (Below.refl w.heap.size w)
  have H : (if 0 ≤ (mn (a0_2.size : Int) 200) then (if (mn (a0_2.size : Int) 200) ≤ (a0_2.size : Int) then ((tripartitelaw08_narrow.f a1).bind fun t457 => ((tripartitelaw08_To.f a0_0 a0_1 (a0_2.extract 0 ((mn (a0_2.size : Int) 200) : Int).toNat)).bind fun bt458 => ((mark_LineG.f bt458.1 bt458.2.1 bt458.2.2 t457).bind fun bt461 => ((tripartiteref08_Line.f k a0_0 a0_1 (a0_2.extract 0 ((mn (a0_2.size : Int) 200) : Int).toNat) t457).bind fun bt463 => ((tripartitelaw08_told.f k).bind fun t465 => (if t465 = true then (if bt461.1.toList = bt463.1.toList then (tripartitelaw08_MarkLinesG.j0 k t457 bt461.1 bt461.2 (bt461.2 != bt463.2) a0_0 a0_1 (a0_2.extract 0 ((mn (a0_2.size : Int) 200) : Int).toNat)) else (tripartitelaw08_MarkLinesG.j0 k t457 bt461.1 bt461.2 true a0_0 a0_1 (a0_2.extract 0 ((mn (a0_2.size : Int) 200) : Int).toNat))) else (tripartitelaw08_MarkLinesG.j0 k t457 bt461.1 bt461.2 true a0_0 a0_1 (a0_2.extract 0 ((mn (a0_2.size : Int) 200) : Int).toNat)))))))) else (none)) else (none)) = some r := h
  clear h
  obtain ⟨ji3, hji3⟩ : ∃ j_ : Int, (mn (a0_2.size : Int) 200) = j_ := ⟨_, rfl⟩
  replace H : (if 0 ≤ (ji3) then (if (ji3) ≤ (a0_2.size : Int) then ((tripartitelaw08_narrow.f a1).bind fun t457 => ((tripartitelaw08_To.f a0_0 a0_1 (a0_2.extract 0 ((ji3) : Int).toNat)).bind fun bt458 => ((mark_LineG.f bt458.1 bt458.2.1 bt458.2.2 t457).bind fun bt461 => ((tripartiteref08_Line.f k a0_0 a0_1 (a0_2.extract 0 ((ji3) : Int).toNat) t457).bind fun bt463 => ((tripartitelaw08_told.f k).bind fun t465 => (if t465 = true then (if bt461.1.toList = bt463.1.toList then (tripartitelaw08_MarkLinesG.j0 k t457 bt461.1 bt461.2 (bt461.2 != bt463.2) a0_0 a0_1 (a0_2.extract 0 ((ji3) : Int).toNat)) else (tripartitelaw08_MarkLinesG.j0 k t457 bt461.1 bt461.2 true a0_0 a0_1 (a0_2.extract 0 ((ji3) : Int).toNat))) else (tripartitelaw08_MarkLinesG.j0 k t457 bt461.1 bt461.2 true a0_0 a0_1 (a0_2.extract 0 ((ji3) : Int).toNat)))))))) else (none)) else (none)) = some r := by first | (rw [hji3] at H; exact H) | (simp only [hji3] at H ⊢; exact H)
  (try (have hji3h : ji3 ≤ 200 := by (rw [← hji3]; unfold mn; (repeat' split) <;> omega)))
  (try (have hji3g : ji3 ≤ 64 := by omega))
  (try (have hji3l : 0 ≤ ji3 := by (rw [← hji3]; unfold mn; (repeat' split) <;> omega)))
  (try (have hji3m : 0 ≤ ji3 := by omega))
  have hji3_ : (if 200 < (a0_2.size : Int) then 200 else (a0_2.size : Int)) = ji3 := hji3
  by_cases c4 : 0 ≤ (ji3)
  · rw [if_pos c4] at H
    have c4b0 := eq_true c4
    have c4b1 : decide (0 ≤ (ji3)) = true := decide_eq_true c4
    clear c4
    by_cases c5 : (ji3) ≤ (a0_2.size : Int)
    · rw [if_pos c5] at H
      have c5b0 := eq_true c5
      have c5b1 : decide ((ji3) ≤ (a0_2.size : Int)) = true := decide_eq_true c5
      clear c5
      replace H := Option.bind_eq_some_iff.mp H
      obtain ⟨t457, A60, H⟩ := H
      replace H : ((tripartitelaw08_To.f a0_0 a0_1 (a0_2.extract 0 ((ji3) : Int).toNat)).bind fun bt458 => ((mark_LineG.f bt458.1 bt458.2.1 bt458.2.2 t457).bind fun bt461 => ((tripartiteref08_Line.f k a0_0 a0_1 (a0_2.extract 0 ((ji3) : Int).toNat) t457).bind fun bt463 => ((tripartitelaw08_told.f k).bind fun t465 => (if t465 = true then (if bt461.1.toList = bt463.1.toList then (tripartitelaw08_MarkLinesG.j0 k t457 bt461.1 bt461.2 (bt461.2 != bt463.2) a0_0 a0_1 (a0_2.extract 0 ((ji3) : Int).toNat)) else (tripartitelaw08_MarkLinesG.j0 k t457 bt461.1 bt461.2 true a0_0 a0_1 (a0_2.extract 0 ((ji3) : Int).toNat))) else (tripartitelaw08_MarkLinesG.j0 k t457 bt461.1 bt461.2 true a0_0 a0_1 (a0_2.extract 0 ((ji3) : Int).toNat))))))) = some r := H
      have A6 := Aside0.mk A60
      clear A60
      replace H := Option.bind_eq_some_iff.mp H
      obtain ⟨⟨t458, t459, t460⟩, A70, H⟩ := H
      replace H : ((mark_LineG.f t458 t459 t460 t457).bind fun bt461 => ((tripartiteref08_Line.f k a0_0 a0_1 (a0_2.extract 0 ((ji3) : Int).toNat) t457).bind fun bt463 => ((tripartitelaw08_told.f k).bind fun t465 => (if t465 = true then (if bt461.1.toList = bt463.1.toList then (tripartitelaw08_MarkLinesG.j0 k t457 bt461.1 bt461.2 (bt461.2 != bt463.2) a0_0 a0_1 (a0_2.extract 0 ((ji3) : Int).toNat)) else (tripartitelaw08_MarkLinesG.j0 k t457 bt461.1 bt461.2 true a0_0 a0_1 (a0_2.extract 0 ((ji3) : Int).toNat))) else (tripartitelaw08_MarkLinesG.j0 k t457 bt461.1 bt461.2 true a0_0 a0_1 (a0_2.extract 0 ((ji3) : Int).toNat)))))) = some r := H
      have A7 := Aside0.mk A70
      clear A70
      replace H := Option.bind_eq_some_iff.mp H
      obtain ⟨⟨t461, t462⟩, A80, H⟩ := H
      replace H : ((tripartiteref08_Line.f k a0_0 a0_1 (a0_2.extract 0 ((ji3) : Int).toNat) t457).bind fun bt463 => ((tripartitelaw08_told.f k).bind fun t465 => (if t465 = true then (if t461.toList = bt463.1.toList then (tripartitelaw08_MarkLinesG.j0 k t457 t461 t462 (t462 != bt463.2) a0_0 a0_1 (a0_2.extract 0 ((ji3) : Int).toNat)) else (tripartitelaw08_MarkLinesG.j0 k t457 t461 t462 true a0_0 a0_1 (a0_2.extract 0 ((ji3) : Int).toNat))) else (tripartitelaw08_MarkLinesG.j0 k t457 t461 t462 true a0_0 a0_1 (a0_2.extract 0 ((ji3) : Int).toNat))))) = some r := H
      have A8 := Aside0.mk A80
      clear A80
      replace H := Option.bind_eq_some_iff.mp H
      obtain ⟨⟨t463, t464⟩, A90, H⟩ := H
      replace H : ((tripartitelaw08_told.f k).bind fun t465 => (if t465 = true then (if t461.toList = t463.toList then (tripartitelaw08_MarkLinesG.j0 k t457 t461 t462 (t462 != t464) a0_0 a0_1 (a0_2.extract 0 ((ji3) : Int).toNat)) else (tripartitelaw08_MarkLinesG.j0 k t457 t461 t462 true a0_0 a0_1 (a0_2.extract 0 ((ji3) : Int).toNat))) else (tripartitelaw08_MarkLinesG.j0 k t457 t461 t462 true a0_0 a0_1 (a0_2.extract 0 ((ji3) : Int).toNat)))) = some r := H
      have A9 := Aside0.mk A90
      clear A90
      have HC10 := Aside0.mk H
      clear H
      go_enter Try.func9, Try.ntmps9
      go_upto_region 5 with (first | ((with_reducible refine gate_dst (N := 2) rfl ?_); refine box_event ?hg (N := 2) ?hd (cs := #[.int .u8 a0_0, .bool a0_1, .string a0_2]) (t := 60) ?hr ?_; (case hd => rfl); (case hg => rfl); (case hr => first | (go_simp; done) | (go_simp; rfl)); intro gb456 hg w11 hbox hb; have n0_ := Aside0.mk (below_step (by repeat (first | (with_reducible first | exact HB.out | apply below_alloc | apply pw_below_drewN | apply below_drew1) | exact HB.out)) hb); have n1_ := Aside0.mk (hbox); have n2_ := Aside0.mk ((by rw [hg]; exact (below_size (by repeat (first | (with_reducible first | exact HB.out | apply below_alloc | apply pw_below_drewN | apply below_drew1) | exact HB.out))) : w.heap.size ≤ gb456)); have n3_ := Aside0.mk ((by rw [hg]; exact (below_size (by repeat (first | (with_reducible first | exact HB.out | apply below_alloc | apply pw_below_drewN | apply below_drew1) | exact HB.out))) : w.heap.size ≤ gb456)); clear HB; have HB := n0_; have BK456 := n1_; have GW456 := n2_; have GE456 := n3_; clear n0_ n1_ n2_ n3_; clear hb hbox hg; have hcz12_0 : w11.cell? ⟨gb456, 0, none⟩ = some (.int .u8 a0_0) := (blk_cell BK456.out 0).trans rfl; have hcz12_1 : w11.cell? ⟨gb456, 1, none⟩ = some (.bool a0_1) := (blk_cell BK456.out 1).trans rfl; have hcz12_2 : w11.cell? ⟨gb456, 2, none⟩ = some (.string a0_2) := (blk_cell BK456.out 2).trans rfl; have hfz12_0 := blk_frozen BK456.out 0; have hfz12_1 := blk_frozen BK456.out 1; have hfz12_2 := blk_frozen BK456.out 2) | ((with_reducible refine gate_callee (f := 46) rfl ?_); refine goesL_ (some 22) rfl rfl Try.func46 (by kernel_rfl) rfl #[.int .i64 a1] rfl (by (try simp only [List.map_toArray, List.map_cons, List.map_nil]); first | done | rfl | (simp only [List.length_drop, List.length_take]; rfl)) ?_; (with_reducible refine (tripartitelaw08_narrow.calls a1 t457 _ A6.out).mono ?_); rintro e w' ⟨rfl, ⟨nd, rfl⟩⟩; refine ⟨_, rfl, ?_⟩) | ((with_reducible refine gate_callee (f := 50) rfl ?_); refine goesL_ (some 25) rfl rfl Try.func50 (by kernel_rfl) rfl #[.agg #[.int .u8 a0_0, .bool a0_1, .string (a0_2.extract 0 ((ji3) : Int).toNat)]] rfl (by (try simp only [List.map_toArray, List.map_cons, List.map_nil]); first | done | (simp only [hji3]; rfl) | rfl | (simp only [List.length_drop, List.length_take]; rfl)) ?_; (with_reducible refine (tripartitelaw08_To.calls a0_0 a0_1 (a0_2.extract 0 ((ji3) : Int).toNat) t458 t459 t460 _ A7.out).mono ?_); rintro e w13 ⟨rfl, hb⟩; refine ⟨_, rfl, ?_⟩; have n0_ := Aside0.mk (blk_below (g := gb456) (o := .cells #[.int .u8 a0_0, .bool a0_1, .string (a0_2.extract 0 ((ji3) : Int).toNat)] 60 (0, 0)) (by (with_reducible repeat (first | refine blk_drewN ?_ _ | refine blk_drew ?_ | refine blk_alloc ?_ _)); refine blk_put (cs := #[.int .u8 a0_0, .bool a0_1, .string a0_2]) ?_ 2 _ rfl; (with_reducible repeat (first | refine blk_drewN ?_ _ | refine blk_drew ?_ | refine blk_alloc ?_ _)); exact BK456.out) hb); have n1_ := Aside0.mk (below_step (by repeat (first | (with_reducible first | exact HB.out | apply below_alloc | apply pw_below_drewN | apply below_drew1 | refine below_set ?_ GE456.out) | exact HB.out)) hb); clear BK456; clear HB; have BK456 := n0_; have HB := n1_; clear n0_ n1_; (try clear hb); (try clear hb2); (try clear hk); (try clear hi)) | ((with_reducible refine gate_callee (f := 49) rfl ?_); refine goesL_ (some 27) rfl rfl Try.func49 (by kernel_rfl) rfl #[.agg #[.int .u8 t458, .bool t459, .string t460], .int .i64 t457] rfl (by (try simp only [List.map_toArray, List.map_cons, List.map_nil]); first | done | rfl | (simp only [List.length_drop, List.length_take]; rfl)) ?_; (with_reducible refine (mark_LineG.calls t458 t459 t460 t457 t461 t462 _ mG (tr0 (by repeat (first | (with_reducible first | exact HB.out | apply below_alloc | apply pw_below_drewN | apply below_drew1 | refine below_set ?_ GE456.out) | exact HB.out)) HM.out) A8.out).mono ?_); rintro e w14 ⟨rfl, hb⟩; refine ⟨_, rfl, ?_⟩; have n0_ := Aside0.mk (blk_below (g := gb456) (o := .cells #[.int .u8 a0_0, .bool a0_1, .string (a0_2.extract 0 ((ji3) : Int).toNat)] 60 (0, 0)) (by (with_reducible repeat (first | refine blk_drewN ?_ _ | refine blk_drew ?_ | refine blk_alloc ?_ _)); exact BK456.out) hb); have n1_ := Aside0.mk (below_step (by repeat (first | (with_reducible first | exact HB.out | apply below_alloc | apply pw_below_drewN | apply below_drew1 | refine below_set ?_ GE456.out) | exact HB.out)) hb); clear BK456; clear HB; have BK456 := n0_; have HB := n1_; clear n0_ n1_; (try clear hb); (try clear hb2); (try clear hk); (try clear hi); have hcz15_0 : w14.cell? ⟨gb456, 0, none⟩ = some (.int .u8 a0_0) := (blk_cell BK456.out 0).trans rfl; have hcz15_1 : w14.cell? ⟨gb456, 1, none⟩ = some (.bool a0_1) := (blk_cell BK456.out 1).trans rfl; have hcz15_2 : w14.cell? ⟨gb456, 2, none⟩ = some (.string (a0_2.extract 0 ((ji3) : Int).toNat)) := (blk_cell BK456.out 2).trans rfl; have hfz15_0 := blk_frozen BK456.out 0; have hfz15_1 := blk_frozen BK456.out 1; have hfz15_2 := blk_frozen BK456.out 2) | ((with_reducible refine gate_callee (f := 51) rfl ?_); refine goesL_ (some 33) rfl rfl Try.func51 (by kernel_rfl) rfl #[.agg #[.int .u8 a0_0, .bool a0_1, .string (a0_2.extract 0 ((ji3) : Int).toNat)], .int .i64 t457] rfl (by (try simp only [List.map_toArray, List.map_cons, List.map_nil]); first | done | (simp only [hji3]; rfl) | rfl | (simp only [List.length_drop, List.length_take]; rfl)) ?_; (with_reducible refine (tripartiteref08_Line.calls k a0_0 a0_1 (a0_2.extract 0 ((ji3) : Int).toNat) t457 t463 t464 _ A9.out).mono ?_); rintro e w16 ⟨rfl, hb⟩; refine ⟨_, rfl, ?_⟩; have n0_ := Aside0.mk (blk_below (g := gb456) (o := .cells #[.int .u8 a0_0, .bool a0_1, .string (a0_2.extract 0 ((ji3) : Int).toNat)] 60 (0, 0)) (by (with_reducible repeat (first | refine blk_drewN ?_ _ | refine blk_drew ?_ | refine blk_alloc ?_ _)); exact BK456.out) hb); have n1_ := Aside0.mk (below_step (by repeat (first | (with_reducible first | exact HB.out | apply below_alloc | apply pw_below_drewN | apply below_drew1 | refine below_set ?_ GE456.out) | exact HB.out)) hb); clear BK456; clear HB; have BK456 := n0_; have HB := n1_; clear n0_ n1_; (try clear hb); (try clear hb2); (try clear hk); (try clear hi)))
      (try simp only [Act.put, List.setIfInBounds_toArray, List.set_cons_zero, List.set_cons_succ])
      go_cut [47] (fun v47 wc => ∃ (kq : Nat) (x47_9 : Bool), v47 = .bool x47_9 ∧ Aside0 (tripartitelaw08_MarkLinesG.j0 kq t457 t461 t462 x47_9 a0_0 a0_1 (a0_2.extract 0 ((ji3) : Int).toNat) = some r) ∧ Aside0 (kq ≤ k) ∧ Aside0 (wc.heap[gb456]? = some (.cells #[.int .u8 a0_0, .bool a0_1, .string (a0_2.extract 0 ((ji3) : Int).toNat)] 60 (0, 0))) ∧ Aside0 (Below w.heap.size w wc))
      case first =>
        have H := HC10.out
        clear HC10
        replace H := Option.bind_eq_some_iff.mp H
        obtain ⟨t465, A170, H⟩ := H
        replace H : (if t465 = true then (if t461.toList = t463.toList then (tripartitelaw08_MarkLinesG.j0 k t457 t461 t462 (t462 != t464) a0_0 a0_1 (a0_2.extract 0 ((ji3) : Int).toNat)) else (tripartitelaw08_MarkLinesG.j0 k t457 t461 t462 true a0_0 a0_1 (a0_2.extract 0 ((ji3) : Int).toNat))) else (tripartitelaw08_MarkLinesG.j0 k t457 t461 t462 true a0_0 a0_1 (a0_2.extract 0 ((ji3) : Int).toNat))) = some r := H
        have A17 := Aside0.mk A170
        clear A170
        by_cases c18 : t465 = true
        · subst c18
          have H1 : (if t461.toList = t463.toList then (tripartitelaw08_MarkLinesG.j0 k t457 t461 t462 (t462 != t464) a0_0 a0_1 (a0_2.extract 0 ((ji3) : Int).toNat)) else (tripartitelaw08_MarkLinesG.j0 k t457 t461 t462 true a0_0 a0_1 (a0_2.extract 0 ((ji3) : Int).toNat))) = some r := by rw [if_pos rfl] at H; exact H
          clear H
          have H := H1
          clear H1
          by_cases c19 : t461.toList = t463.toList
          · rw [if_pos c19] at H
            have c19b0 : (t461.toList == t463.toList) = true := beq_iff_eq.mpr c19
            have c19b1 : (t461.toList != t463.toList) = false := bne_eq_false_iff_eq.mpr c19
            clear c19
            (first | rw [c19b0] | (simp only [i64_w, i32_w]; rw [c19b0]) | skip)
            have H' := Aside0.mk H
            clear H
            go_wp2_with (first | ((with_reducible refine gate_callee (f := 45) rfl ?_); refine goesL_ (some 36) rfl rfl Try.func45 (by kernel_rfl) rfl #[] rfl (by (try simp only [List.map_toArray, List.map_cons, List.map_nil]); first | done | rfl | (simp only [List.length_drop, List.length_take]; rfl)) ?_; (with_reducible refine (tripartitelaw08_told.calls k  true _ A17.out).mono ?_); rintro e w20 ⟨rfl, hb⟩; refine ⟨_, rfl, ?_⟩; have n0_ := Aside0.mk (blk_below (g := gb456) (o := .cells #[.int .u8 a0_0, .bool a0_1, .string (a0_2.extract 0 ((ji3) : Int).toNat)] 60 (0, 0)) (by (with_reducible repeat (first | refine blk_drewN ?_ _ | refine blk_drew ?_ | refine blk_alloc ?_ _)); exact BK456.out) hb); have n1_ := Aside0.mk (below_step (by repeat (first | (with_reducible first | exact HB.out | apply below_alloc | apply pw_below_drewN | apply below_drew1 | refine below_set ?_ GE456.out) | exact HB.out)) hb); clear BK456; clear HB; have BK456 := n0_; have HB := n1_; clear n0_ n1_; (try clear hb); (try clear hb2); (try clear hk); (try clear hi)))
            go_meet
            case rel => exact ⟨_, ((t462 != t464)), (by first | rfl | (simp; done) | (simp [*]; done)), H', ⟨by first | omega | exact Nat.le_refl _⟩, ⟨by (with_reducible repeat (first | refine blk_drewN ?_ _ | refine blk_drew ?_ | refine blk_alloc ?_ _)); exact BK456.out⟩, ⟨by repeat (first | (with_reducible first | exact HB.out | apply below_alloc | apply pw_below_drewN | apply below_drew1 | refine below_set ?_ GE456.out) | exact HB.out)⟩⟩
          · rw [if_neg c19] at H
            have c19b0 : (t461.toList == t463.toList) = false := beq_eq_false_iff_ne.mpr c19
            have c19b1 : (t461.toList != t463.toList) = true := bne_iff_ne.mpr c19
            (first | rw [c19b0] | (simp only [i64_w, i32_w]; rw [c19b0]) | skip)
            have H' := Aside0.mk H
            clear H
            go_wp2_with (first | ((with_reducible refine gate_callee (f := 45) rfl ?_); refine goesL_ (some 36) rfl rfl Try.func45 (by kernel_rfl) rfl #[] rfl (by (try simp only [List.map_toArray, List.map_cons, List.map_nil]); first | done | rfl | (simp only [List.length_drop, List.length_take]; rfl)) ?_; (with_reducible refine (tripartitelaw08_told.calls k  true _ A17.out).mono ?_); rintro e w21 ⟨rfl, hb⟩; refine ⟨_, rfl, ?_⟩; have n0_ := Aside0.mk (blk_below (g := gb456) (o := .cells #[.int .u8 a0_0, .bool a0_1, .string (a0_2.extract 0 ((ji3) : Int).toNat)] 60 (0, 0)) (by (with_reducible repeat (first | refine blk_drewN ?_ _ | refine blk_drew ?_ | refine blk_alloc ?_ _)); exact BK456.out) hb); have n1_ := Aside0.mk (below_step (by repeat (first | (with_reducible first | exact HB.out | apply below_alloc | apply pw_below_drewN | apply below_drew1 | refine below_set ?_ GE456.out) | exact HB.out)) hb); clear BK456; clear HB; have BK456 := n0_; have HB := n1_; clear n0_ n1_; (try clear hb); (try clear hb2); (try clear hk); (try clear hi)))
            go_meet
            case rel => exact ⟨_, (true), (by first | rfl | (simp; done) | (simp [*]; done)), H', ⟨by first | omega | exact Nat.le_refl _⟩, ⟨by (with_reducible repeat (first | refine blk_drewN ?_ _ | refine blk_drew ?_ | refine blk_alloc ?_ _)); exact BK456.out⟩, ⟨by repeat (first | (with_reducible first | exact HB.out | apply below_alloc | apply pw_below_drewN | apply below_drew1 | refine below_set ?_ GE456.out) | exact HB.out)⟩⟩
        · replace c18 := Bool.eq_false_iff.mpr c18
          subst c18
          have H1 : (tripartitelaw08_MarkLinesG.j0 k t457 t461 t462 true a0_0 a0_1 (a0_2.extract 0 ((ji3) : Int).toNat)) = some r := by rw [if_neg (show ¬ (false = true) by decide)] at H; exact H
          clear H
          have H := H1
          clear H1
          have H' := Aside0.mk H
          clear H
          go_wp2_with (first | ((with_reducible refine gate_callee (f := 45) rfl ?_); refine goesL_ (some 36) rfl rfl Try.func45 (by kernel_rfl) rfl #[] rfl (by (try simp only [List.map_toArray, List.map_cons, List.map_nil]); first | done | rfl | (simp only [List.length_drop, List.length_take]; rfl)) ?_; (with_reducible refine (tripartitelaw08_told.calls k  false _ A17.out).mono ?_); rintro e w22 ⟨rfl, hb⟩; refine ⟨_, rfl, ?_⟩; have n0_ := Aside0.mk (blk_below (g := gb456) (o := .cells #[.int .u8 a0_0, .bool a0_1, .string (a0_2.extract 0 ((ji3) : Int).toNat)] 60 (0, 0)) (by (with_reducible repeat (first | refine blk_drewN ?_ _ | refine blk_drew ?_ | refine blk_alloc ?_ _)); exact BK456.out) hb); have n1_ := Aside0.mk (below_step (by repeat (first | (with_reducible first | exact HB.out | apply below_alloc | apply pw_below_drewN | apply below_drew1 | refine below_set ?_ GE456.out) | exact HB.out)) hb); clear BK456; clear HB; have BK456 := n0_; have HB := n1_; clear n0_ n1_; (try clear hb); (try clear hb2); (try clear hk); (try clear hi)))
          go_meet
          case rel => exact ⟨_, (true), (by first | rfl | (simp; done) | (simp [*]; done)), H', ⟨by first | omega | exact Nat.le_refl _⟩, ⟨by (with_reducible repeat (first | refine blk_drewN ?_ _ | refine blk_drew ?_ | refine blk_alloc ?_ _)); exact BK456.out⟩, ⟨by repeat (first | (with_reducible first | exact HB.out | apply below_alloc | apply pw_below_drewN | apply below_drew1 | refine below_set ?_ GE456.out) | exact HB.out)⟩⟩
      case rest =>
        clear HC10
        try clear c1
        try clear p2
        try clear c4
        try clear c4b0
        try clear c4b1
        try clear c5
        try clear c5b0
        try clear c5b1
        try clear c9
        try clear c18
        try clear c19
        try clear c19b0
        try clear c19b1
        try clear hcz12_0
        try clear hcz12_1
        try clear hcz12_2
        try clear hcz15_0
        try clear hcz15_1
        try clear hcz15_2
        try clear hfz12_0
        try clear hfz12_1
        try clear hfz12_2
        try clear hfz15_0
        try clear hfz15_1
        try clear hfz15_2
        obtain ⟨kq, x47_9, rfl, HA, HJ9, BK456, HB⟩ := hcut
        cases kq with
        | zero => exact absurd HA.out (by simp [tripartitelaw08_MarkLinesG.j0])
        | succ kj9 =>
          have H := HA.out
          clear HA
          simp only [tripartitelaw08_MarkLinesG.j0] at H
          by_cases c23 : x47_9 = true
          · subst c23
            have H1 : (some false) = some r := by rw [if_pos rfl] at H; exact H
            clear H
            have H := H1
            clear H1
            obtain rfl := Option.some.inj H
            go_wp2
            go_ret
            exact ⟨by first | rfl | (simp [errW_none, errW_some] <;> rfl) | (simp only [← hji3]; first | rfl | (simp [errW_none, errW_some] <;> rfl)) | (simp [*, errW_none, errW_some] <;> rfl), by repeat (first | (with_reducible first | exact HB.out | apply below_alloc | apply pw_below_drewN | apply below_drew1 | refine below_set ?_ GE456.out) | exact HB.out)⟩
          · replace c23 := Bool.eq_false_iff.mpr c23
            subst c23
            have H1 : (if t462 = 0 then ((mark_Read.f kj9 t461 t457).bind fun bt466 => (if bt466.2.2.2.1 = true then (if bt466.2.2.2.2 = 0 then ((tripartitelaw08_From.f bt466.1 bt466.2.1 bt466.2.2.1).bind fun bt472 => (some (bt472.1 == a0_0 && (bt472.2.1 == a0_1 && (bt472.2.2.toList == (a0_2.extract 0 ((ji3) : Int).toNat).toList))))) else (some false)) else (some false))) else (some true)) = some r := by rw [if_neg (show ¬ (false = true) by decide)] at H; exact H
            clear H
            have H := H1
            clear H1
            by_cases c24 : t462 = 0
            · rw [if_pos c24] at H
              have c24b0 : (t462 == 0) = true := beq_iff_eq.mpr c24
              have c24b1 : (t462 != 0) = false := bne_eq_false_iff_eq.mpr c24
              clear c24
              replace H := Option.bind_eq_some_iff.mp H
              obtain ⟨⟨t466, t467, t468, t469, t470⟩, A250, H⟩ := H
              replace H : (if t469 = true then (if t470 = 0 then ((tripartitelaw08_From.f t466 t467 t468).bind fun bt472 => (some (bt472.1 == a0_0 && (bt472.2.1 == a0_1 && (bt472.2.2.toList == (a0_2.extract 0 ((ji3) : Int).toNat).toList))))) else (some false)) else (some false)) = some r := H
              have A25 := Aside0.mk A250
              clear A250
              by_cases c26 : t469 = true
              · subst c26
                have H1 : (if t470 = 0 then ((tripartitelaw08_From.f t466 t467 t468).bind fun bt472 => (some (bt472.1 == a0_0 && (bt472.2.1 == a0_1 && (bt472.2.2.toList == (a0_2.extract 0 ((ji3) : Int).toNat).toList))))) else (some false)) = some r := by rw [if_pos rfl] at H; exact H
                clear H
                have H := H1
                clear H1
                by_cases c27 : t470 = 0
                · rw [if_pos c27] at H
                  have c27b0 : (t470 == 0) = true := beq_iff_eq.mpr c27
                  have c27b1 : (t470 != 0) = false := bne_eq_false_iff_eq.mpr c27
                  clear c27
                  replace H := Option.bind_eq_some_iff.mp H
                  obtain ⟨⟨t472, t473, t474⟩, A280, H⟩ := H
                  replace H : (some (t472 == a0_0 && (t473 == a0_1 && (t474.toList == (a0_2.extract 0 ((ji3) : Int).toNat).toList)))) = some r := H
                  have A28 := Aside0.mk A280
                  clear A280
                  obtain rfl := Option.some.inj H
                  try go_wp2_with (first | ((with_reducible refine gate_callee (f := 52) rfl ?_); refine goesL_ (some 53) rfl rfl Try.func52 (by kernel_rfl) rfl #[.string t461, .int .i64 t457] rfl (by (try simp only [List.map_toArray, List.map_cons, List.map_nil]); first | done | rfl | (simp only [List.length_drop, List.length_take]; rfl)) ?_; (with_reducible refine (mark_Read.calls kj9 t461 t457 t466 t467 t468 true t470 _ A25.out).mono ?_); rintro e w29 ⟨rfl, hb⟩; refine ⟨_, rfl, ?_⟩; have n0_ := Aside0.mk (blk_below (g := gb456) (o := .cells #[.int .u8 a0_0, .bool a0_1, .string (a0_2.extract 0 ((ji3) : Int).toNat)] 60 (0, 0)) (by (with_reducible repeat (first | refine blk_drewN ?_ _ | refine blk_drew ?_ | refine blk_alloc ?_ _)); exact BK456.out) hb); have n1_ := Aside0.mk (below_step (by repeat (first | (with_reducible first | exact HB.out | apply below_alloc | apply pw_below_drewN | apply below_drew1 | refine below_set ?_ GE456.out) | exact HB.out)) hb); clear BK456; clear HB; have BK456 := n0_; have HB := n1_; clear n0_ n1_; (try clear hb); (try clear hb2); (try clear hk); (try clear hi)) | ((with_reducible refine gate_dst (N := 10) rfl ?_); refine box_event ?hg (N := 10) ?hd (cs := #[.int .u8 0, .bool false, .string (⟨#[]⟩ : ByteArray)]) (t := 62) ?hr ?_; (case hd => rfl); (case hg => rfl); (case hr => first | (go_simp; done) | (go_simp; rfl)); intro gb471 hg w30 hbox hb; have n0_ := Aside0.mk (blk_below (g := gb456) (o := .cells #[.int .u8 a0_0, .bool a0_1, .string (a0_2.extract 0 ((ji3) : Int).toNat)] 60 (0, 0)) (by (with_reducible repeat (first | refine blk_drewN ?_ _ | refine blk_drew ?_ | refine blk_alloc ?_ _)); exact BK456.out) hb); have n1_ := Aside0.mk (below_step (by repeat (first | (with_reducible first | exact HB.out | apply below_alloc | apply pw_below_drewN | apply below_drew1 | refine below_set ?_ GE456.out) | exact HB.out)) hb); have n2_ := Aside0.mk (hbox); have n3_ := Aside0.mk ((by rw [hg]; exact (below_size (by repeat (first | (with_reducible first | exact HB.out | apply below_alloc | apply pw_below_drewN | apply below_drew1 | refine below_set ?_ GE456.out) | exact HB.out))) : w.heap.size ≤ gb471)); have n4_ := Aside0.mk ((by rw [hg]; exact (below_size (by repeat (first | (with_reducible first | exact HB.out | apply below_alloc | apply pw_below_drewN | apply below_drew1 | refine below_set ?_ GE456.out) | exact HB.out))) : w.heap.size ≤ gb471)); have n5_ := Aside0.mk ((by rw [hg]; exact Nat.ne_of_lt (blk_lt (g := gb456) (o := .cells #[.int .u8 a0_0, .bool a0_1, .string (a0_2.extract 0 ((ji3) : Int).toNat)] 60 (0, 0)) (by (with_reducible repeat (first | refine blk_drewN ?_ _ | refine blk_drew ?_ | refine blk_alloc ?_ _)); exact BK456.out)) : gb456 ≠ gb471)); have n6_ := Aside0.mk ((by rw [hg]; exact Nat.ne_of_gt (blk_lt (g := gb456) (o := .cells #[.int .u8 a0_0, .bool a0_1, .string (a0_2.extract 0 ((ji3) : Int).toNat)] 60 (0, 0)) (by (with_reducible repeat (first | refine blk_drewN ?_ _ | refine blk_drew ?_ | refine blk_alloc ?_ _)); exact BK456.out)) : gb471 ≠ gb456)); clear BK456; clear HB; have BK456 := n0_; have HB := n1_; have BK471 := n2_; have GW471 := n3_; have GE471 := n4_; have NB456_471 := n5_; have NB471_456 := n6_; clear n0_ n1_ n2_ n3_ n4_ n5_ n6_; clear hb hbox hg; have hnb31 := NB471_456.out; have hnc31 := NB456_471.out; have hcz32_0 : w30.cell? ⟨gb471, 0, none⟩ = some (.int .u8 0) := (blk_cell BK471.out 0).trans rfl; have hcz32_1 : w30.cell? ⟨gb471, 1, none⟩ = some (.bool false) := (blk_cell BK471.out 1).trans rfl; have hcz32_2 : w30.cell? ⟨gb471, 2, none⟩ = some (.string (⟨#[]⟩ : ByteArray)) := (blk_cell BK471.out 2).trans rfl; have hfz32_0 := blk_frozen BK471.out 0; have hfz32_1 := blk_frozen BK471.out 1; have hfz32_2 := blk_frozen BK471.out 2))
                  have n0_ : Aside0 ((((w30.setCell ⟨gb471, 0, none⟩ (.int .u8 t466)).setCell ⟨gb471, 1, none⟩ (.bool t467)).setCell ⟨gb471, 2, none⟩ (.string t468)).heap[gb456]? = some (.cells #[.int .u8 a0_0, .bool a0_1, .string (a0_2.extract 0 ((ji3) : Int).toNat)] 60 (0, 0))) := ⟨by (with_reducible repeat (first | refine blk_drewN ?_ _ | refine blk_drew ?_ | refine blk_alloc ?_ _)); refine blk_far ?_ NB456_471.out _; (with_reducible repeat (first | refine blk_drewN ?_ _ | refine blk_drew ?_ | refine blk_alloc ?_ _)); refine blk_far ?_ NB456_471.out _; (with_reducible repeat (first | refine blk_drewN ?_ _ | refine blk_drew ?_ | refine blk_alloc ?_ _)); refine blk_far ?_ NB456_471.out _; (with_reducible repeat (first | refine blk_drewN ?_ _ | refine blk_drew ?_ | refine blk_alloc ?_ _)); exact BK456.out⟩
                  have n1_ : Aside0 ((((w30.setCell ⟨gb471, 0, none⟩ (.int .u8 t466)).setCell ⟨gb471, 1, none⟩ (.bool t467)).setCell ⟨gb471, 2, none⟩ (.string t468)).heap[gb471]? = some (.cells #[.int .u8 t466, .bool t467, .string t468] 62 (0, 0))) := ⟨by (with_reducible repeat (first | refine blk_drewN ?_ _ | refine blk_drew ?_ | refine blk_alloc ?_ _)); refine blk_put (cs := #[.int .u8 t466, .bool t467, .string (⟨#[]⟩ : ByteArray)]) ?_ 2 _ rfl; (with_reducible repeat (first | refine blk_drewN ?_ _ | refine blk_drew ?_ | refine blk_alloc ?_ _)); refine blk_put (cs := #[.int .u8 t466, .bool false, .string (⟨#[]⟩ : ByteArray)]) ?_ 1 _ rfl; (with_reducible repeat (first | refine blk_drewN ?_ _ | refine blk_drew ?_ | refine blk_alloc ?_ _)); refine blk_put (cs := #[.int .u8 0, .bool false, .string (⟨#[]⟩ : ByteArray)]) ?_ 0 _ rfl; (with_reducible repeat (first | refine blk_drewN ?_ _ | refine blk_drew ?_ | refine blk_alloc ?_ _)); exact BK471.out⟩
                  have n2_ : Aside0 (Below w.heap.size w (((w30.setCell ⟨gb471, 0, none⟩ (.int .u8 t466)).setCell ⟨gb471, 1, none⟩ (.bool t467)).setCell ⟨gb471, 2, none⟩ (.string t468))) := ⟨by repeat (first | (with_reducible first | exact HB.out | apply below_alloc | apply pw_below_drewN | apply below_drew1 | refine below_set ?_ GE456.out | refine below_set ?_ GE471.out) | exact HB.out)⟩
                  (try clear BK456)
                  (try clear BK471)
                  (try clear HB)
                  generalize (((w30.setCell ⟨gb471, 0, none⟩ (.int .u8 t466)).setCell ⟨gb471, 1, none⟩ (.bool t467)).setCell ⟨gb471, 2, none⟩ (.string t468)) = w33 at n0_ n1_ n2_ ⊢
                  have BK456 := n0_
                  have BK471 := n1_
                  have HB := n2_
                  clear n0_ n1_ n2_
                  have n0_ := Aside0.mk (blk_drew BK456.out)
                  have n1_ := Aside0.mk (blk_drew BK471.out)
                  have n2_ := Aside0.mk (below_drew1 HB.out)
                  clear BK456
                  clear BK471
                  clear HB
                  have BK456 := n0_
                  have BK471 := n1_
                  have HB := n2_
                  clear n0_ n1_ n2_
                  refine start_ (n := 12) (S := fun w' => w'.cell? ⟨gb471, 0, none⟩ = some (.int .u8 t466) ∧ w'.cell? ⟨gb471, 1, none⟩ = some (.bool t467) ∧ w'.cell? ⟨gb471, 2, none⟩ = some (.string t468) ∧ w'.cell? ⟨gb456, 0, none⟩ = some (.int .u8 a0_0) ∧ w'.cell? ⟨gb456, 1, none⟩ = some (.bool a0_1) ∧ w'.cell? ⟨gb456, 2, none⟩ = some (.string (a0_2.extract 0 ((ji3) : Int).toNat))) (ds := []) #[false, false, false, false, false, false, false, false, false, false, false, false] (by kernel_rfl) rfl rfl ⟨(blk_cell BK471.out 0).trans rfl, (blk_cell BK471.out 1).trans rfl, (blk_cell BK471.out 2).trans rfl, (blk_cell BK456.out 0).trans rfl, (blk_cell BK456.out 1).trans rfl, (blk_cell BK456.out 2).trans rfl⟩ (fun hHeld => ?_); refine with_tabW tripartitelaw08_MarkLinesG.tab10 tripartitelaw08_MarkLinesG.bits10 (fun HT_ HW_ => ?_)
                  generalize w33.drew = w34 at BK456 BK471 HB hHeld ⊢
                  refine pure_ (i := 0) (N := some 57) (v := ?_) (a' := ?_) #[true, false, false, false, false, false, false, false, false, false, false, false] rfl rfl (any_of HT_.out (by kernel_rfl)) (fun _ _ _ h => h) (Or.inl ⟨by rfl, ?_⟩) ?_ ?_
                  rotate_left
                  · intro w'
                    go_simp
                    with_reducible rfl
                  rotate_left
                  · simp only [Act.put, List.setIfInBounds_toArray, List.set_cons_zero, List.set_cons_succ, i64_w, i32_w]
                    rfl
                  refine pure_ (i := 1) (N := some 58) (v := ?_) (a' := ?_) #[true, true, false, false, false, false, false, false, false, false, false, false] rfl rfl (any_of HT_.out (by kernel_rfl)) (fun _ _ _ h => h) (Or.inl ⟨by rfl, ?_⟩) ?_ ?_
                  rotate_left
                  · intro w'
                    go_simp
                    with_reducible rfl
                  rotate_left
                  · simp only [Act.put, List.setIfInBounds_toArray, List.set_cons_zero, List.set_cons_succ, i64_w, i32_w]
                    rfl
                  refine pure_ (i := 2) (N := some 59) (v := ?_) (a' := ?_) #[true, true, true, false, false, false, false, false, false, false, false, false] rfl rfl (any_of HT_.out (by kernel_rfl)) (fun _ _ _ h => h) (Or.inl ⟨by rfl, ?_⟩) ?_ ?_
                  rotate_left
                  · intro w'
                    go_simp
                    with_reducible rfl
                  rotate_left
                  · simp only [Act.put, List.setIfInBounds_toArray, List.set_cons_zero, List.set_cons_succ, i64_w, i32_w]
                    rfl
                  refine pure_ (i := 3) (N := some 60) (v := ?_) (a' := ?_) #[true, true, true, true, false, false, false, false, false, false, false, false] rfl rfl (any_of HT_.out (by kernel_rfl)) (fun _ _ _ h => h) (Or.inl ⟨by rfl, ?_⟩) ?_ ?_
                  rotate_left
                  · intro w'
                    go_simp
                    with_reducible rfl
                  rotate_left
                  · simp only [Act.put, List.setIfInBounds_toArray, List.set_cons_zero, List.set_cons_succ, i64_w, i32_w]
                    rfl
                  refine pure_ (i := 4) (N := some 61) (v := ?_) (a' := ?_) #[true, true, true, true, true, false, false, false, false, false, false, false] rfl rfl (any_of HT_.out (by kernel_rfl)) (fun _ _ _ h => h) (Or.inl ⟨by rfl, ?_⟩) ?_ ?_
                  rotate_left
                  · intro w'
                    go_simp
                    with_reducible rfl
                  rotate_left
                  · simp only [Act.put, List.setIfInBounds_toArray, List.set_cons_zero, List.set_cons_succ, i64_w, i32_w]
                    rfl
                  refine pure_ (i := 5) (N := some 62) (v := ?_) (a' := ?_) #[true, true, true, true, true, true, false, false, false, false, false, false] rfl rfl (any_of HT_.out (by kernel_rfl)) (fun _ _ _ h => h) (Or.inl ⟨by rfl, ?_⟩) ?_ ?_
                  rotate_left
                  · intro w'
                    go_simp
                    with_reducible rfl
                  rotate_left
                  · simp only [Act.put, List.setIfInBounds_toArray, List.set_cons_zero, List.set_cons_succ, i64_w, i32_w]
                    rfl
                  refine take_ (i := 6) (N := some 63) (v := ?_) (a' := ?_) #[true, true, true, true, true, true, true, false, false, false, false, false] rfl rfl (take_ofW HT_.out HW_.out (by kernel_rfl)) (fun _ _ _ h => h) (Or.inl ⟨by rfl, ?_⟩) hHeld ?_ ?_
                  rotate_left
                  · rintro w' ⟨s0, s1, s2, s3, s4, s5⟩
                    go_simp
                    with_reducible rfl
                  rotate_left
                  · simp only [Act.put, List.setIfInBounds_toArray, List.set_cons_zero, List.set_cons_succ, i64_w, i32_w]
                    rfl
                  refine take_ (i := 8) (N := some 65) (v := ?_) (a' := ?_) #[true, true, true, true, true, true, true, false, true, false, false, false] rfl rfl (take_ofW HT_.out HW_.out (by kernel_rfl)) (fun _ _ _ h => h) (Or.inl ⟨by rfl, ?_⟩) hHeld ?_ ?_
                  rotate_left
                  · rintro w' ⟨s0, s1, s2, s3, s4, s5⟩
                    go_simp
                    with_reducible rfl
                  rotate_left
                  · simp only [Act.put, List.setIfInBounds_toArray, List.set_cons_zero, List.set_cons_succ, i64_w, i32_w]
                    rfl
                  refine one_ (i := 7) (N := some 64) #[true, true, true, true, true, true, true, true, true, false, false, false] rfl rfl (one_of HT_.out (by kernel_rfl)) (by decide) (fun K hK => ?_)
                  refine goes_ Try.func53 (by kernel_rfl) rfl #[.agg #[.int .u8 t466, .bool t467, .string t468]] (by rfl) rfl rfl (by (try simp only [List.map_toArray, List.map_cons, List.map_nil]); first | done | rfl | (simp only [List.length_drop, List.length_take]; rfl)) ?_
                  with_reducible refine (tripartitelaw08_From.calls t466 t467 t468 t472 t473 t474 _ A28.out).mono ?_
                  rintro e w35 ⟨rfl, hb⟩
                  refine ⟨_, rfl, ?_⟩
                  have n0_ := Aside0.mk (blk_below (g := gb456) (o := .cells #[.int .u8 a0_0, .bool a0_1, .string (a0_2.extract 0 ((ji3) : Int).toNat)] 60 (0, 0)) (by (with_reducible repeat (first | refine blk_drewN ?_ _ | refine blk_drew ?_ | refine blk_alloc ?_ _)); exact BK456.out) hb)
                  have n1_ := Aside0.mk (blk_below (g := gb471) (o := .cells #[.int .u8 t466, .bool t467, .string t468] 62 (0, 0)) (by (with_reducible repeat (first | refine blk_drewN ?_ _ | refine blk_drew ?_ | refine blk_alloc ?_ _)); exact BK471.out) hb)
                  have n2_ := Aside0.mk (below_step (by repeat (first | (with_reducible first | exact HB.out | apply below_alloc | apply pw_below_drewN | apply below_drew1 | refine below_set ?_ GE456.out | refine below_set ?_ GE471.out) | exact HB.out)) hb)
                  clear BK456
                  clear BK471
                  clear HB
                  have BK456 := n0_
                  have BK471 := n1_
                  have HB := n2_
                  clear n0_ n1_ n2_
                  (try clear hb)
                  (try clear hb2)
                  (try clear hk)
                  (try clear hi)
                  refine hK.out _ _ ⟨(blk_cell BK471.out 0).trans rfl, (blk_cell BK471.out 1).trans rfl, (blk_cell BK471.out 2).trans rfl, (blk_cell BK456.out 0).trans rfl, (blk_cell BK456.out 1).trans rfl, (blk_cell BK456.out 2).trans rfl⟩ (fun hHeld => ?_)
                  clear hK K
                  refine norm_ (a' := ?_) ?_ ?_
                  rotate_left
                  · show Act.put _ (some 64) _ = _
                    simp only [Act.put, List.setIfInBounds_toArray, List.set_cons_zero, List.set_cons_succ, i64_w, i32_w]
                    rfl
                  refine pure_ (i := 9) (N := some 66) (v := ?_) (a' := ?_) #[true, true, true, true, true, true, true, true, true, true, false, false] rfl rfl (any_of HT_.out (by kernel_rfl)) (fun _ _ _ h => h) (Or.inl ⟨by rfl, ?_⟩) ?_ ?_
                  rotate_left
                  · intro w'
                    go_simp
                    with_reducible rfl
                  rotate_left
                  · simp only [Act.put, List.setIfInBounds_toArray, List.set_cons_zero, List.set_cons_succ, i64_w, i32_w]
                    rfl
                  refine pure_ (i := 10) (N := some 67) (v := ?_) (a' := ?_) #[true, true, true, true, true, true, true, true, true, true, true, false] rfl rfl (any_of HT_.out (by kernel_rfl)) (fun _ _ _ h => h) (Or.inl ⟨by rfl, ?_⟩) ?_ ?_
                  rotate_left
                  · intro w'
                    go_simp
                    with_reducible rfl
                  rotate_left
                  · simp only [Act.put, List.setIfInBounds_toArray, List.set_cons_zero, List.set_cons_succ, i64_w, i32_w]
                    rfl
                  refine pure_ (i := 11) (N := some 4) (v := ?_) (a' := ?_) #[true, true, true, true, true, true, true, true, true, true, true, true] rfl rfl (any_of HT_.out (by kernel_rfl)) (fun _ _ _ h => h) (Or.inl ⟨by rfl, ?_⟩) ?_ ?_
                  rotate_left
                  · intro w'
                    go_simp
                    with_reducible rfl
                  rotate_left
                  · simp only [Act.put, List.setIfInBounds_toArray, List.set_cons_zero, List.set_cons_succ, i64_w, i32_w]
                    rfl
                  refine done_ (done_of HT_.out (by kernel_rfl)) ?_
                  try go_wp2
                  go_ret
                  exact ⟨by first | rfl | (simp [errW_none, errW_some] <;> rfl) | (simp only [← hji3]; first | rfl | (simp [errW_none, errW_some] <;> rfl)) | (simp [*, errW_none, errW_some] <;> rfl), by repeat (first | (with_reducible first | exact HB.out | apply below_alloc | apply pw_below_drewN | apply below_drew1 | refine below_set ?_ GE456.out | refine below_set ?_ GE471.out) | exact HB.out)⟩
                · rw [if_neg c27] at H
                  have c27b0 : (t470 == 0) = false := beq_eq_false_iff_ne.mpr c27
                  have c27b1 : (t470 != 0) = true := bne_iff_ne.mpr c27
                  obtain rfl := Option.some.inj H
                  try go_wp2_with (first | ((with_reducible refine gate_callee (f := 52) rfl ?_); refine goesL_ (some 53) rfl rfl Try.func52 (by kernel_rfl) rfl #[.string t461, .int .i64 t457] rfl (by (try simp only [List.map_toArray, List.map_cons, List.map_nil]); first | done | rfl | (simp only [List.length_drop, List.length_take]; rfl)) ?_; (with_reducible refine (mark_Read.calls kj9 t461 t457 t466 t467 t468 true t470 _ A25.out).mono ?_); rintro e w36 ⟨rfl, hb⟩; refine ⟨_, rfl, ?_⟩; have n0_ := Aside0.mk (blk_below (g := gb456) (o := .cells #[.int .u8 a0_0, .bool a0_1, .string (a0_2.extract 0 ((ji3) : Int).toNat)] 60 (0, 0)) (by (with_reducible repeat (first | refine blk_drewN ?_ _ | refine blk_drew ?_ | refine blk_alloc ?_ _)); exact BK456.out) hb); have n1_ := Aside0.mk (below_step (by repeat (first | (with_reducible first | exact HB.out | apply below_alloc | apply pw_below_drewN | apply below_drew1 | refine below_set ?_ GE456.out) | exact HB.out)) hb); clear BK456; clear HB; have BK456 := n0_; have HB := n1_; clear n0_ n1_; (try clear hb); (try clear hb2); (try clear hk); (try clear hi)) | ((with_reducible refine gate_dst (N := 10) rfl ?_); refine box_event ?hg (N := 10) ?hd (cs := #[.int .u8 0, .bool false, .string (⟨#[]⟩ : ByteArray)]) (t := 62) ?hr ?_; (case hd => rfl); (case hg => rfl); (case hr => first | (go_simp; done) | (go_simp; rfl)); intro gb471 hg w37 hbox hb; have n0_ := Aside0.mk (blk_below (g := gb456) (o := .cells #[.int .u8 a0_0, .bool a0_1, .string (a0_2.extract 0 ((ji3) : Int).toNat)] 60 (0, 0)) (by (with_reducible repeat (first | refine blk_drewN ?_ _ | refine blk_drew ?_ | refine blk_alloc ?_ _)); exact BK456.out) hb); have n1_ := Aside0.mk (below_step (by repeat (first | (with_reducible first | exact HB.out | apply below_alloc | apply pw_below_drewN | apply below_drew1 | refine below_set ?_ GE456.out) | exact HB.out)) hb); have n2_ := Aside0.mk (hbox); have n3_ := Aside0.mk ((by rw [hg]; exact (below_size (by repeat (first | (with_reducible first | exact HB.out | apply below_alloc | apply pw_below_drewN | apply below_drew1 | refine below_set ?_ GE456.out) | exact HB.out))) : w.heap.size ≤ gb471)); have n4_ := Aside0.mk ((by rw [hg]; exact (below_size (by repeat (first | (with_reducible first | exact HB.out | apply below_alloc | apply pw_below_drewN | apply below_drew1 | refine below_set ?_ GE456.out) | exact HB.out))) : w.heap.size ≤ gb471)); have n5_ := Aside0.mk ((by rw [hg]; exact Nat.ne_of_lt (blk_lt (g := gb456) (o := .cells #[.int .u8 a0_0, .bool a0_1, .string (a0_2.extract 0 ((ji3) : Int).toNat)] 60 (0, 0)) (by (with_reducible repeat (first | refine blk_drewN ?_ _ | refine blk_drew ?_ | refine blk_alloc ?_ _)); exact BK456.out)) : gb456 ≠ gb471)); have n6_ := Aside0.mk ((by rw [hg]; exact Nat.ne_of_gt (blk_lt (g := gb456) (o := .cells #[.int .u8 a0_0, .bool a0_1, .string (a0_2.extract 0 ((ji3) : Int).toNat)] 60 (0, 0)) (by (with_reducible repeat (first | refine blk_drewN ?_ _ | refine blk_drew ?_ | refine blk_alloc ?_ _)); exact BK456.out)) : gb471 ≠ gb456)); clear BK456; clear HB; have BK456 := n0_; have HB := n1_; have BK471 := n2_; have GW471 := n3_; have GE471 := n4_; have NB456_471 := n5_; have NB471_456 := n6_; clear n0_ n1_ n2_ n3_ n4_ n5_ n6_; clear hb hbox hg; have hnb38 := NB471_456.out; have hnc38 := NB456_471.out; have hcz39_0 : w37.cell? ⟨gb471, 0, none⟩ = some (.int .u8 0) := (blk_cell BK471.out 0).trans rfl; have hcz39_1 : w37.cell? ⟨gb471, 1, none⟩ = some (.bool false) := (blk_cell BK471.out 1).trans rfl; have hcz39_2 : w37.cell? ⟨gb471, 2, none⟩ = some (.string (⟨#[]⟩ : ByteArray)) := (blk_cell BK471.out 2).trans rfl; have hfz39_0 := blk_frozen BK471.out 0; have hfz39_1 := blk_frozen BK471.out 1; have hfz39_2 := blk_frozen BK471.out 2))
                  have n0_ : Aside0 ((((w37.setCell ⟨gb471, 0, none⟩ (.int .u8 t466)).setCell ⟨gb471, 1, none⟩ (.bool t467)).setCell ⟨gb471, 2, none⟩ (.string t468)).heap[gb456]? = some (.cells #[.int .u8 a0_0, .bool a0_1, .string (a0_2.extract 0 ((ji3) : Int).toNat)] 60 (0, 0))) := ⟨by (with_reducible repeat (first | refine blk_drewN ?_ _ | refine blk_drew ?_ | refine blk_alloc ?_ _)); refine blk_far ?_ NB456_471.out _; (with_reducible repeat (first | refine blk_drewN ?_ _ | refine blk_drew ?_ | refine blk_alloc ?_ _)); refine blk_far ?_ NB456_471.out _; (with_reducible repeat (first | refine blk_drewN ?_ _ | refine blk_drew ?_ | refine blk_alloc ?_ _)); refine blk_far ?_ NB456_471.out _; (with_reducible repeat (first | refine blk_drewN ?_ _ | refine blk_drew ?_ | refine blk_alloc ?_ _)); exact BK456.out⟩
                  have n1_ : Aside0 ((((w37.setCell ⟨gb471, 0, none⟩ (.int .u8 t466)).setCell ⟨gb471, 1, none⟩ (.bool t467)).setCell ⟨gb471, 2, none⟩ (.string t468)).heap[gb471]? = some (.cells #[.int .u8 t466, .bool t467, .string t468] 62 (0, 0))) := ⟨by (with_reducible repeat (first | refine blk_drewN ?_ _ | refine blk_drew ?_ | refine blk_alloc ?_ _)); refine blk_put (cs := #[.int .u8 t466, .bool t467, .string (⟨#[]⟩ : ByteArray)]) ?_ 2 _ rfl; (with_reducible repeat (first | refine blk_drewN ?_ _ | refine blk_drew ?_ | refine blk_alloc ?_ _)); refine blk_put (cs := #[.int .u8 t466, .bool false, .string (⟨#[]⟩ : ByteArray)]) ?_ 1 _ rfl; (with_reducible repeat (first | refine blk_drewN ?_ _ | refine blk_drew ?_ | refine blk_alloc ?_ _)); refine blk_put (cs := #[.int .u8 0, .bool false, .string (⟨#[]⟩ : ByteArray)]) ?_ 0 _ rfl; (with_reducible repeat (first | refine blk_drewN ?_ _ | refine blk_drew ?_ | refine blk_alloc ?_ _)); exact BK471.out⟩
                  have n2_ : Aside0 (Below w.heap.size w (((w37.setCell ⟨gb471, 0, none⟩ (.int .u8 t466)).setCell ⟨gb471, 1, none⟩ (.bool t467)).setCell ⟨gb471, 2, none⟩ (.string t468))) := ⟨by repeat (first | (with_reducible first | exact HB.out | apply below_alloc | apply pw_below_drewN | apply below_drew1 | refine below_set ?_ GE456.out | refine below_set ?_ GE471.out) | exact HB.out)⟩
                  (try clear BK456)
                  (try clear BK471)
                  (try clear HB)
                  generalize (((w37.setCell ⟨gb471, 0, none⟩ (.int .u8 t466)).setCell ⟨gb471, 1, none⟩ (.bool t467)).setCell ⟨gb471, 2, none⟩ (.string t468)) = w40 at n0_ n1_ n2_ ⊢
                  have BK456 := n0_
                  have BK471 := n1_
                  have HB := n2_
                  clear n0_ n1_ n2_
                  have n0_ := Aside0.mk (blk_drew BK456.out)
                  have n1_ := Aside0.mk (blk_drew BK471.out)
                  have n2_ := Aside0.mk (below_drew1 HB.out)
                  clear BK456
                  clear BK471
                  clear HB
                  have BK456 := n0_
                  have BK471 := n1_
                  have HB := n2_
                  clear n0_ n1_ n2_
                  refine start_ (n := 12) (S := fun w' => True) (ds := []) #[false, false, false, false, false, false, false, false, false, false, false, false] (by kernel_rfl) rfl rfl trivial (fun hHeld => ?_); refine with_tabW tripartitelaw08_MarkLinesG.tab10 tripartitelaw08_MarkLinesG.bits10 (fun HT_ HW_ => ?_)
                  generalize w40.drew = w41 at BK456 BK471 HB hHeld ⊢
                  refine pure_ (i := 0) (N := some 57) (v := ?_) (a' := ?_) #[true, false, false, false, false, false, false, false, false, false, false, false] rfl rfl (any_of HT_.out (by kernel_rfl)) (fun _ _ _ h => h) (Or.inl ⟨by rfl, ?_⟩) ?_ ?_
                  rotate_left
                  · intro w'
                    go_simp
                    with_reducible rfl
                  rotate_left
                  · simp only [Act.put, List.setIfInBounds_toArray, List.set_cons_zero, List.set_cons_succ, i64_w, i32_w]
                    rfl
                  refine pure_ (i := 1) (N := some 58) (v := ?_) (a' := ?_) #[true, true, false, false, false, false, false, false, false, false, false, false] rfl rfl (any_of HT_.out (by kernel_rfl)) (fun _ _ _ h => h) (Or.inl ⟨by rfl, ?_⟩) ?_ ?_
                  rotate_left
                  · intro w'
                    go_simp
                    with_reducible rfl
                  rotate_left
                  · simp only [Act.put, List.setIfInBounds_toArray, List.set_cons_zero, List.set_cons_succ, i64_w, i32_w]
                    rfl
                  refine pure_ (i := 2) (N := some 59) (v := ?_) (a' := ?_) #[true, true, true, false, false, false, false, false, false, false, false, false] rfl rfl (any_of HT_.out (by kernel_rfl)) (fun _ _ _ h => h) (Or.inl ⟨by rfl, ?_⟩) ?_ ?_
                  rotate_left
                  · intro w'
                    go_simp
                    with_reducible rfl
                  rotate_left
                  · simp only [Act.put, List.setIfInBounds_toArray, List.set_cons_zero, List.set_cons_succ, i64_w, i32_w]
                    rfl
                  refine pure_ (i := 3) (N := some 60) (v := ?_) (a' := ?_) #[true, true, true, true, false, false, false, false, false, false, false, false] rfl rfl (any_of HT_.out (by kernel_rfl)) (fun _ _ _ h => h) (Or.inl ⟨by rfl, ?_⟩) ?_ ?_
                  rotate_left
                  · intro w'
                    go_simp
                    with_reducible rfl
                  rotate_left
                  · simp only [Act.put, List.setIfInBounds_toArray, List.set_cons_zero, List.set_cons_succ, i64_w, i32_w]
                    rfl
                  refine pure_ (i := 4) (N := some 61) (v := ?_) (a' := ?_) #[true, true, true, true, true, false, false, false, false, false, false, false] rfl rfl (any_of HT_.out (by kernel_rfl)) (fun _ _ _ h => h) (Or.inl ⟨by rfl, ?_⟩) ?_ ?_
                  rotate_left
                  · intro w'
                    go_simp
                    with_reducible rfl
                  rotate_left
                  · simp only [Act.put, List.setIfInBounds_toArray, List.set_cons_zero, List.set_cons_succ, i64_w, i32_w]
                    rfl
                  refine pure_ (i := 5) (N := some 62) (v := ?_) (a' := ?_) #[true, true, true, true, true, true, false, false, false, false, false, false] rfl rfl (any_of HT_.out (by kernel_rfl)) (fun _ _ _ h => h) (Or.inl ⟨by rfl, ?_⟩) ?_ ?_
                  rotate_left
                  · intro w'
                    go_simp
                    with_reducible rfl
                  rotate_left
                  · simp only [Act.put, List.setIfInBounds_toArray, List.set_cons_zero, List.set_cons_succ, i64_w, i32_w]
                    rfl
                  refine pure_ (i := 6) (N := some 63) (v := undef) (a' := ?_) #[true, true, true, true, true, true, true, false, false, false, false, false] rfl rfl (any_of HT_.out (by kernel_rfl)) (fun _ _ _ h => h) (Or.inr ⟨by rfl, rfl⟩) ?_ ?_
                  rotate_left
                  · simp only [Act.put, List.setIfInBounds_toArray, List.set_cons_zero, List.set_cons_succ, i64_w, i32_w]
                    rfl
                  refine pure_ (i := 7) (N := some 64) (v := undef) (a' := ?_) #[true, true, true, true, true, true, true, true, false, false, false, false] rfl rfl (any_of HT_.out (by kernel_rfl)) (fun _ _ _ h => h) (Or.inr ⟨by rfl, rfl⟩) ?_ ?_
                  rotate_left
                  · simp only [Act.put, List.setIfInBounds_toArray, List.set_cons_zero, List.set_cons_succ, i64_w, i32_w]
                    rfl
                  refine pure_ (i := 8) (N := some 65) (v := undef) (a' := ?_) #[true, true, true, true, true, true, true, true, true, false, false, false] rfl rfl (any_of HT_.out (by kernel_rfl)) (fun _ _ _ h => h) (Or.inr ⟨by rfl, rfl⟩) ?_ ?_
                  rotate_left
                  · simp only [Act.put, List.setIfInBounds_toArray, List.set_cons_zero, List.set_cons_succ, i64_w, i32_w]
                    rfl
                  refine pure_ (i := 9) (N := some 66) (v := undef) (a' := ?_) #[true, true, true, true, true, true, true, true, true, true, false, false] rfl rfl (any_of HT_.out (by kernel_rfl)) (fun _ _ _ h => h) (Or.inr ⟨by rfl, rfl⟩) ?_ ?_
                  rotate_left
                  · simp only [Act.put, List.setIfInBounds_toArray, List.set_cons_zero, List.set_cons_succ, i64_w, i32_w]
                    rfl
                  refine pure_ (i := 10) (N := some 67) (v := ?_) (a' := ?_) #[true, true, true, true, true, true, true, true, true, true, true, false] rfl rfl (any_of HT_.out (by kernel_rfl)) (fun _ _ _ h => h) (Or.inl ⟨by rfl, ?_⟩) ?_ ?_
                  rotate_left
                  · intro w'
                    go_simp
                    with_reducible rfl
                  rotate_left
                  · simp only [Act.put, List.setIfInBounds_toArray, List.set_cons_zero, List.set_cons_succ, i64_w, i32_w]
                    rfl
                  refine pure_ (i := 11) (N := some 4) (v := ?_) (a' := ?_) #[true, true, true, true, true, true, true, true, true, true, true, true] rfl rfl (any_of HT_.out (by kernel_rfl)) (fun _ _ _ h => h) (Or.inl ⟨by rfl, ?_⟩) ?_ ?_
                  rotate_left
                  · intro w'
                    go_simp
                    with_reducible rfl
                  rotate_left
                  · simp only [Act.put, List.setIfInBounds_toArray, List.set_cons_zero, List.set_cons_succ, i64_w, i32_w]
                    rfl
                  refine done_ (done_of HT_.out (by kernel_rfl)) ?_
                  try go_wp2
                  go_ret
                  exact ⟨by first | rfl | (simp [errW_none, errW_some] <;> rfl) | (simp only [← hji3]; first | rfl | (simp [errW_none, errW_some] <;> rfl)) | (simp [*, errW_none, errW_some] <;> rfl), by repeat (first | (with_reducible first | exact HB.out | apply below_alloc | apply pw_below_drewN | apply below_drew1 | refine below_set ?_ GE456.out | refine below_set ?_ GE471.out) | exact HB.out)⟩
              · replace c26 := Bool.eq_false_iff.mpr c26
                subst c26
                have H1 : (some false) = some r := by rw [if_neg (show ¬ (false = true) by decide)] at H; exact H
                clear H
                have H := H1
                clear H1
                obtain rfl := Option.some.inj H
                try go_wp2_with (first | ((with_reducible refine gate_callee (f := 52) rfl ?_); refine goesL_ (some 53) rfl rfl Try.func52 (by kernel_rfl) rfl #[.string t461, .int .i64 t457] rfl (by (try simp only [List.map_toArray, List.map_cons, List.map_nil]); first | done | rfl | (simp only [List.length_drop, List.length_take]; rfl)) ?_; (with_reducible refine (mark_Read.calls kj9 t461 t457 t466 t467 t468 false t470 _ A25.out).mono ?_); rintro e w42 ⟨rfl, hb⟩; refine ⟨_, rfl, ?_⟩; have n0_ := Aside0.mk (blk_below (g := gb456) (o := .cells #[.int .u8 a0_0, .bool a0_1, .string (a0_2.extract 0 ((ji3) : Int).toNat)] 60 (0, 0)) (by (with_reducible repeat (first | refine blk_drewN ?_ _ | refine blk_drew ?_ | refine blk_alloc ?_ _)); exact BK456.out) hb); have n1_ := Aside0.mk (below_step (by repeat (first | (with_reducible first | exact HB.out | apply below_alloc | apply pw_below_drewN | apply below_drew1 | refine below_set ?_ GE456.out) | exact HB.out)) hb); clear BK456; clear HB; have BK456 := n0_; have HB := n1_; clear n0_ n1_; (try clear hb); (try clear hb2); (try clear hk); (try clear hi)) | ((with_reducible refine gate_dst (N := 10) rfl ?_); refine box_event ?hg (N := 10) ?hd (cs := #[.int .u8 0, .bool false, .string (⟨#[]⟩ : ByteArray)]) (t := 62) ?hr ?_; (case hd => rfl); (case hg => rfl); (case hr => first | (go_simp; done) | (go_simp; rfl)); intro gb471 hg w43 hbox hb; have n0_ := Aside0.mk (blk_below (g := gb456) (o := .cells #[.int .u8 a0_0, .bool a0_1, .string (a0_2.extract 0 ((ji3) : Int).toNat)] 60 (0, 0)) (by (with_reducible repeat (first | refine blk_drewN ?_ _ | refine blk_drew ?_ | refine blk_alloc ?_ _)); exact BK456.out) hb); have n1_ := Aside0.mk (below_step (by repeat (first | (with_reducible first | exact HB.out | apply below_alloc | apply pw_below_drewN | apply below_drew1 | refine below_set ?_ GE456.out) | exact HB.out)) hb); have n2_ := Aside0.mk (hbox); have n3_ := Aside0.mk ((by rw [hg]; exact (below_size (by repeat (first | (with_reducible first | exact HB.out | apply below_alloc | apply pw_below_drewN | apply below_drew1 | refine below_set ?_ GE456.out) | exact HB.out))) : w.heap.size ≤ gb471)); have n4_ := Aside0.mk ((by rw [hg]; exact (below_size (by repeat (first | (with_reducible first | exact HB.out | apply below_alloc | apply pw_below_drewN | apply below_drew1 | refine below_set ?_ GE456.out) | exact HB.out))) : w.heap.size ≤ gb471)); have n5_ := Aside0.mk ((by rw [hg]; exact Nat.ne_of_lt (blk_lt (g := gb456) (o := .cells #[.int .u8 a0_0, .bool a0_1, .string (a0_2.extract 0 ((ji3) : Int).toNat)] 60 (0, 0)) (by (with_reducible repeat (first | refine blk_drewN ?_ _ | refine blk_drew ?_ | refine blk_alloc ?_ _)); exact BK456.out)) : gb456 ≠ gb471)); have n6_ := Aside0.mk ((by rw [hg]; exact Nat.ne_of_gt (blk_lt (g := gb456) (o := .cells #[.int .u8 a0_0, .bool a0_1, .string (a0_2.extract 0 ((ji3) : Int).toNat)] 60 (0, 0)) (by (with_reducible repeat (first | refine blk_drewN ?_ _ | refine blk_drew ?_ | refine blk_alloc ?_ _)); exact BK456.out)) : gb471 ≠ gb456)); clear BK456; clear HB; have BK456 := n0_; have HB := n1_; have BK471 := n2_; have GW471 := n3_; have GE471 := n4_; have NB456_471 := n5_; have NB471_456 := n6_; clear n0_ n1_ n2_ n3_ n4_ n5_ n6_; clear hb hbox hg; have hnb44 := NB471_456.out; have hnc44 := NB456_471.out; have hcz45_0 : w43.cell? ⟨gb471, 0, none⟩ = some (.int .u8 0) := (blk_cell BK471.out 0).trans rfl; have hcz45_1 : w43.cell? ⟨gb471, 1, none⟩ = some (.bool false) := (blk_cell BK471.out 1).trans rfl; have hcz45_2 : w43.cell? ⟨gb471, 2, none⟩ = some (.string (⟨#[]⟩ : ByteArray)) := (blk_cell BK471.out 2).trans rfl; have hfz45_0 := blk_frozen BK471.out 0; have hfz45_1 := blk_frozen BK471.out 1; have hfz45_2 := blk_frozen BK471.out 2))
                have n0_ : Aside0 ((((w43.setCell ⟨gb471, 0, none⟩ (.int .u8 t466)).setCell ⟨gb471, 1, none⟩ (.bool t467)).setCell ⟨gb471, 2, none⟩ (.string t468)).heap[gb456]? = some (.cells #[.int .u8 a0_0, .bool a0_1, .string (a0_2.extract 0 ((ji3) : Int).toNat)] 60 (0, 0))) := ⟨by (with_reducible repeat (first | refine blk_drewN ?_ _ | refine blk_drew ?_ | refine blk_alloc ?_ _)); refine blk_far ?_ NB456_471.out _; (with_reducible repeat (first | refine blk_drewN ?_ _ | refine blk_drew ?_ | refine blk_alloc ?_ _)); refine blk_far ?_ NB456_471.out _; (with_reducible repeat (first | refine blk_drewN ?_ _ | refine blk_drew ?_ | refine blk_alloc ?_ _)); refine blk_far ?_ NB456_471.out _; (with_reducible repeat (first | refine blk_drewN ?_ _ | refine blk_drew ?_ | refine blk_alloc ?_ _)); exact BK456.out⟩
                have n1_ : Aside0 ((((w43.setCell ⟨gb471, 0, none⟩ (.int .u8 t466)).setCell ⟨gb471, 1, none⟩ (.bool t467)).setCell ⟨gb471, 2, none⟩ (.string t468)).heap[gb471]? = some (.cells #[.int .u8 t466, .bool t467, .string t468] 62 (0, 0))) := ⟨by (with_reducible repeat (first | refine blk_drewN ?_ _ | refine blk_drew ?_ | refine blk_alloc ?_ _)); refine blk_put (cs := #[.int .u8 t466, .bool t467, .string (⟨#[]⟩ : ByteArray)]) ?_ 2 _ rfl; (with_reducible repeat (first | refine blk_drewN ?_ _ | refine blk_drew ?_ | refine blk_alloc ?_ _)); refine blk_put (cs := #[.int .u8 t466, .bool false, .string (⟨#[]⟩ : ByteArray)]) ?_ 1 _ rfl; (with_reducible repeat (first | refine blk_drewN ?_ _ | refine blk_drew ?_ | refine blk_alloc ?_ _)); refine blk_put (cs := #[.int .u8 0, .bool false, .string (⟨#[]⟩ : ByteArray)]) ?_ 0 _ rfl; (with_reducible repeat (first | refine blk_drewN ?_ _ | refine blk_drew ?_ | refine blk_alloc ?_ _)); exact BK471.out⟩
                have n2_ : Aside0 (Below w.heap.size w (((w43.setCell ⟨gb471, 0, none⟩ (.int .u8 t466)).setCell ⟨gb471, 1, none⟩ (.bool t467)).setCell ⟨gb471, 2, none⟩ (.string t468))) := ⟨by repeat (first | (with_reducible first | exact HB.out | apply below_alloc | apply pw_below_drewN | apply below_drew1 | refine below_set ?_ GE456.out | refine below_set ?_ GE471.out) | exact HB.out)⟩
                (try clear BK456)
                (try clear BK471)
                (try clear HB)
                generalize (((w43.setCell ⟨gb471, 0, none⟩ (.int .u8 t466)).setCell ⟨gb471, 1, none⟩ (.bool t467)).setCell ⟨gb471, 2, none⟩ (.string t468)) = w46 at n0_ n1_ n2_ ⊢
                have BK456 := n0_
                have BK471 := n1_
                have HB := n2_
                clear n0_ n1_ n2_
                have n0_ := Aside0.mk (blk_drew BK456.out)
                have n1_ := Aside0.mk (blk_drew BK471.out)
                have n2_ := Aside0.mk (below_drew1 HB.out)
                clear BK456
                clear BK471
                clear HB
                have BK456 := n0_
                have BK471 := n1_
                have HB := n2_
                clear n0_ n1_ n2_
                refine start_ (n := 12) (S := fun w' => True) (ds := []) #[false, false, false, false, false, false, false, false, false, false, false, false] (by kernel_rfl) rfl rfl trivial (fun hHeld => ?_); refine with_tabW tripartitelaw08_MarkLinesG.tab10 tripartitelaw08_MarkLinesG.bits10 (fun HT_ HW_ => ?_)
                generalize w46.drew = w47 at BK456 BK471 HB hHeld ⊢
                refine pure_ (i := 0) (N := some 57) (v := ?_) (a' := ?_) #[true, false, false, false, false, false, false, false, false, false, false, false] rfl rfl (any_of HT_.out (by kernel_rfl)) (fun _ _ _ h => h) (Or.inl ⟨by rfl, ?_⟩) ?_ ?_
                rotate_left
                · intro w'
                  go_simp
                  with_reducible rfl
                rotate_left
                · simp only [Act.put, List.setIfInBounds_toArray, List.set_cons_zero, List.set_cons_succ, i64_w, i32_w]
                  rfl
                refine pure_ (i := 1) (N := some 58) (v := ?_) (a' := ?_) #[true, true, false, false, false, false, false, false, false, false, false, false] rfl rfl (any_of HT_.out (by kernel_rfl)) (fun _ _ _ h => h) (Or.inl ⟨by rfl, ?_⟩) ?_ ?_
                rotate_left
                · intro w'
                  go_simp
                  with_reducible rfl
                rotate_left
                · simp only [Act.put, List.setIfInBounds_toArray, List.set_cons_zero, List.set_cons_succ, i64_w, i32_w]
                  rfl
                refine pure_ (i := 2) (N := some 59) (v := undef) (a' := ?_) #[true, true, true, false, false, false, false, false, false, false, false, false] rfl rfl (any_of HT_.out (by kernel_rfl)) (fun _ _ _ h => h) (Or.inr ⟨by rfl, rfl⟩) ?_ ?_
                rotate_left
                · simp only [Act.put, List.setIfInBounds_toArray, List.set_cons_zero, List.set_cons_succ, i64_w, i32_w]
                  rfl
                refine pure_ (i := 3) (N := some 60) (v := undef) (a' := ?_) #[true, true, true, true, false, false, false, false, false, false, false, false] rfl rfl (any_of HT_.out (by kernel_rfl)) (fun _ _ _ h => h) (Or.inr ⟨by rfl, rfl⟩) ?_ ?_
                rotate_left
                · simp only [Act.put, List.setIfInBounds_toArray, List.set_cons_zero, List.set_cons_succ, i64_w, i32_w]
                  rfl
                refine pure_ (i := 4) (N := some 61) (v := ?_) (a' := ?_) #[true, true, true, true, true, false, false, false, false, false, false, false] rfl rfl (any_of HT_.out (by kernel_rfl)) (fun _ _ _ h => h) (Or.inl ⟨by rfl, ?_⟩) ?_ ?_
                rotate_left
                · intro w'
                  go_simp
                  with_reducible rfl
                rotate_left
                · simp only [Act.put, List.setIfInBounds_toArray, List.set_cons_zero, List.set_cons_succ, i64_w, i32_w]
                  rfl
                refine pure_ (i := 5) (N := some 62) (v := ?_) (a' := ?_) #[true, true, true, true, true, true, false, false, false, false, false, false] rfl rfl (any_of HT_.out (by kernel_rfl)) (fun _ _ _ h => h) (Or.inl ⟨by rfl, ?_⟩) ?_ ?_
                rotate_left
                · intro w'
                  go_simp
                  with_reducible rfl
                rotate_left
                · simp only [Act.put, List.setIfInBounds_toArray, List.set_cons_zero, List.set_cons_succ, i64_w, i32_w]
                  rfl
                refine pure_ (i := 6) (N := some 63) (v := undef) (a' := ?_) #[true, true, true, true, true, true, true, false, false, false, false, false] rfl rfl (any_of HT_.out (by kernel_rfl)) (fun _ _ _ h => h) (Or.inr ⟨by rfl, rfl⟩) ?_ ?_
                rotate_left
                · simp only [Act.put, List.setIfInBounds_toArray, List.set_cons_zero, List.set_cons_succ, i64_w, i32_w]
                  rfl
                refine pure_ (i := 7) (N := some 64) (v := undef) (a' := ?_) #[true, true, true, true, true, true, true, true, false, false, false, false] rfl rfl (any_of HT_.out (by kernel_rfl)) (fun _ _ _ h => h) (Or.inr ⟨by rfl, rfl⟩) ?_ ?_
                rotate_left
                · simp only [Act.put, List.setIfInBounds_toArray, List.set_cons_zero, List.set_cons_succ, i64_w, i32_w]
                  rfl
                refine pure_ (i := 8) (N := some 65) (v := undef) (a' := ?_) #[true, true, true, true, true, true, true, true, true, false, false, false] rfl rfl (any_of HT_.out (by kernel_rfl)) (fun _ _ _ h => h) (Or.inr ⟨by rfl, rfl⟩) ?_ ?_
                rotate_left
                · simp only [Act.put, List.setIfInBounds_toArray, List.set_cons_zero, List.set_cons_succ, i64_w, i32_w]
                  rfl
                refine pure_ (i := 9) (N := some 66) (v := undef) (a' := ?_) #[true, true, true, true, true, true, true, true, true, true, false, false] rfl rfl (any_of HT_.out (by kernel_rfl)) (fun _ _ _ h => h) (Or.inr ⟨by rfl, rfl⟩) ?_ ?_
                rotate_left
                · simp only [Act.put, List.setIfInBounds_toArray, List.set_cons_zero, List.set_cons_succ, i64_w, i32_w]
                  rfl
                refine pure_ (i := 10) (N := some 67) (v := ?_) (a' := ?_) #[true, true, true, true, true, true, true, true, true, true, true, false] rfl rfl (any_of HT_.out (by kernel_rfl)) (fun _ _ _ h => h) (Or.inl ⟨by rfl, ?_⟩) ?_ ?_
                rotate_left
                · intro w'
                  go_simp
                  with_reducible rfl
                rotate_left
                · simp only [Act.put, List.setIfInBounds_toArray, List.set_cons_zero, List.set_cons_succ, i64_w, i32_w]
                  rfl
                refine pure_ (i := 11) (N := some 4) (v := ?_) (a' := ?_) #[true, true, true, true, true, true, true, true, true, true, true, true] rfl rfl (any_of HT_.out (by kernel_rfl)) (fun _ _ _ h => h) (Or.inl ⟨by rfl, ?_⟩) ?_ ?_
                rotate_left
                · intro w'
                  go_simp
                  with_reducible rfl
                rotate_left
                · simp only [Act.put, List.setIfInBounds_toArray, List.set_cons_zero, List.set_cons_succ, i64_w, i32_w]
                  rfl
                refine done_ (done_of HT_.out (by kernel_rfl)) ?_
                try go_wp2
                go_ret
                exact ⟨by first | rfl | (simp [errW_none, errW_some] <;> rfl) | (simp only [← hji3]; first | rfl | (simp [errW_none, errW_some] <;> rfl)) | (simp [*, errW_none, errW_some] <;> rfl), by repeat (first | (with_reducible first | exact HB.out | apply below_alloc | apply pw_below_drewN | apply below_drew1 | refine below_set ?_ GE456.out | refine below_set ?_ GE471.out) | exact HB.out)⟩
            · rw [if_neg c24] at H
              have c24b0 : (t462 == 0) = false := beq_eq_false_iff_ne.mpr c24
              have c24b1 : (t462 != 0) = true := bne_iff_ne.mpr c24
              obtain rfl := Option.some.inj H
              go_wp2
              go_ret
              exact ⟨by first | rfl | (simp [errW_none, errW_some] <;> rfl) | (simp only [← hji3]; first | rfl | (simp [errW_none, errW_some] <;> rfl)) | (simp [*, errW_none, errW_some] <;> rfl), by repeat (first | (with_reducible first | exact HB.out | apply below_alloc | apply pw_below_drewN | apply below_drew1 | refine below_set ?_ GE456.out) | exact HB.out)⟩
    · rw [if_neg c5] at H
      exact absurd H (by simp)
  · rw [if_neg c4] at H
    exact absurd H (by simp)
end Go.Proofs.Ytfiamddinkokbaa.F
end

section
set_option linter.unusedVariables false
set_option linter.unusedSimpArgs false
namespace Go.Proofs.Ytfiamddinkokbaa.F
open Go.RowKit Go.Proofs.YtfiamddinkokbaaW.PrintWords Go.Proofs.YtfiamddinkokbaaW.PrintLast Go.Proofs.YtfiamddinkokbaaW.PrintMore
attribute [local go_sem] max2_int min2_int max_two min_two max_three min_three max_four min_four
set_option linter.unusedVariables false
set_option linter.unusedSimpArgs false
end Go.Proofs.Ytfiamddinkokbaa.F
end
