/- Texts joined into one file (wip/tools/pack.py): Fn41, Fn21, Fn92, Fn93, Fn128, Fn94, Fn48 -/
import Derived.Test.YtfiamddinkokbaaMP1
import Derived.Test.YtfiamddinkokbaaMP3
section
set_option linter.unusedVariables false
set_option linter.unusedSimpArgs false
namespace Go.Proofs.Ytfiamddinkokbaa.F
open Go.RowKit Go.Proofs.YtfiamddinkokbaaW.PrintWords Go.Proofs.YtfiamddinkokbaaW.PrintLast Go.Proofs.YtfiamddinkokbaaW.PrintMore
attribute [local go_sem] max2_int min2_int max_two min_two max_three min_three max_four min_four
set_option linter.unusedVariables false
set_option linter.unusedSimpArgs false
def tripartiteref01_Longest.l0 : Nat → List ByteArray → Int → Int → Option (Int)
  | 0, _, _, _ => none
  | k + 1, x0, x3, x4 => if x4 < (x0.length : Int) then (if 0 ≤ x4 then ((tripartiteref01_Run.f k (rdOf ByteArray.empty x0 x4)).bind fun t175 => (tripartiteref01_Longest.l0 k x0 (mx x3 t175) (wrap64 (x4 + 1)))) else (none)) else (some x3)
def tripartiteref01_Longest.f (k : Nat) (l0 : List ByteArray) : Option (Int) := tripartiteref01_Longest.l0 k l0 0 0
theorem tripartiteref01_Longest.mono_l : ∀ k, (∀ y0 y1 y2, LeO (tripartiteref01_Longest.l0 k y0 y1 y2) (tripartiteref01_Longest.l0 (k + 1) y0 y1 y2))
  | 0 => fun _ _ _ r h => by simp [tripartiteref01_Longest.l0] at h
  | k + 1 => by
    have ih0 := tripartiteref01_Longest.mono_l k
    · intro y0 y1 y2
      unfold tripartiteref01_Longest.l0
      repeat' first
      | (with_reducible exact ih0 _ _ _)
      | (with_reducible exact tripartiteref01_Run.mono _ _)
      | (with_reducible exact LeO.refl _)
      | (with_reducible exact LeO.none _)
      | (with_reducible refine LeO.ite ?_ ?_)
      | (with_reducible refine LeO.bind ?_ (fun _ => ?_))
      | exact ih0 _ _ _
      | exact tripartiteref01_Run.mono _ _
      | exact LeO.none _
      | refine LeO.ite ?_ ?_
      | refine LeO.bind ?_ (fun _ => ?_)
theorem tripartiteref01_Longest.mono : ∀ a0 k, LeO (tripartiteref01_Longest.f k a0) (tripartiteref01_Longest.f (k + 1) a0) := by
  intro a0 k
  have ih0 := tripartiteref01_Longest.mono_l k
  unfold tripartiteref01_Longest.f
  repeat' first
      | (with_reducible exact ih0 _ _ _)
      | (with_reducible exact tripartiteref01_Run.mono _ _)
      | (with_reducible exact LeO.refl _)
      | (with_reducible exact LeO.none _)
      | (with_reducible refine LeO.ite ?_ ?_)
      | (with_reducible refine LeO.bind ?_ (fun _ => ?_))
      | exact ih0 _ _ _
      | exact tripartiteref01_Run.mono _ _
      | exact LeO.none _
      | refine LeO.ite ?_ ?_
      | refine LeO.bind ?_ (fun _ => ?_)
set_option maxHeartbeats 8000000 in
set_option maxRecDepth 100000 in
theorem tripartiteref01_Longest.calls (k : Nat) (A0 : Option Addr) (c0 : Nat) (l0 : List ByteArray) (r : Int) (w : World) (hr0 : Kd.C Kd.string w A0 l0.length l0) (hc0 : l0.length ≤ c0) (h : tripartiteref01_Longest.f k l0 = some r) :
    Calls Try.prog 41 #[.slice A0 l0.length c0] w fun e w' => e = .returned (.int .i64 r) ∧ Below w.heap.size w w' := by
  have HR0 := Aside0.mk hr0
  have HC0 := Aside0.mk hc0
  clear hr0 hc0
  have HB := Aside0.mk (Below.refl w.heap.size w)
  have H : (tripartiteref01_Longest.l0 k l0 0 0) = some r := h
  clear h
  have H' := Aside0.mk H
  clear H
  go_enter Try.func41, Try.ntmps41
  go_wp2
  go_loopg [3, 4] k (fun kq v3 v4 w' => ∃ (x3_1 : Int) (x4_1 : Int), v3 = .int .i64 x3_1 ∧ v4 = .int .i64 x4_1 ∧ Aside0 (tripartiteref01_Longest.l0 kq l0 x3_1 x4_1 = some r) ∧ Aside0 (kq ≤ k) ∧ Aside0 (Below w.heap.size w w'))
  case atStart => exact ⟨(0), (0), (by first | rfl | (simp; done) | (simp [*]; done)), (by first | rfl | (simp; done) | (simp [*]; done)), H', ⟨Nat.le_refl _⟩, ⟨by repeat (first | (with_reducible first | exact HB.out | apply below_alloc | apply pw_below_drewN | apply below_drew1) | exact HB.out)⟩⟩
  case round =>
    clear H'
    obtain ⟨x3_1, x4_1, rfl, rfl, HA, HK1, HB⟩ := hrel
    cases gk with
    | zero => exact absurd HA.out (by simp [tripartiteref01_Longest.l0])
    | succ k1 =>
      have H := HA.out
      clear HA
      simp only [tripartiteref01_Longest.l0] at H
      by_cases c2 : x4_1 < (l0.length : Int)
      · rw [if_pos c2] at H
        have c2b0 : decide (x4_1 < (l0.length : Int)) = true := decide_eq_true c2
        clear c2
        by_cases c3 : 0 ≤ x4_1
        · rw [if_pos c3] at H
          have c3b0 : decide (0 ≤ x4_1) = true := decide_eq_true c3
          clear c3
          replace H := Option.bind_eq_some_iff.mp H
          obtain ⟨t175, A40, H⟩ := H
          replace H : (tripartiteref01_Longest.l0 k1 l0 (mx x3_1 t175) (wrap64 (x4_1 + 1))) = some r := H
          have A4 := Aside0.mk A40
          clear A40
          obtain ⟨ji5, hji5⟩ : ∃ j_ : Int, (mx x3_1 t175) = j_ := ⟨_, rfl⟩
          replace H : (tripartiteref01_Longest.l0 k1 l0 ji5 (wrap64 (x4_1 + 1))) = some r := by first | (rw [hji5] at H; exact H) | (simp only [hji5] at H ⊢; exact H)
          (try rw [hji5] at A4)
          have hji5_ : (if x3_1 < t175 then t175 else x3_1) = ji5 := hji5
          have H' := Aside0.mk H
          clear H
          have p174 : 0 ≤ (x4_1 : Int) := of_decide_eq_true (by first | (with_reducible assumption) | assumption)
          have q174 : x4_1 < (l0.length : Int) := of_decide_eq_true (by first | (with_reducible assumption) | assumption)
          obtain ⟨ad174, e174, hx174_0⟩ := Kd.at_string HR0.out x4_1 p174 q174
          cases e174
          replace hx174_0 := (HB.out.cell (World.block_lt_of_cell? w _ hx174_0)).trans hx174_0
          replace p174 := eq_true p174
          replace q174 := eq_true q174
          go_wp2_with (first | ((with_reducible refine gate_callee (f := 44) rfl ?_); refine goesL_ (some 16) rfl rfl Try.func44 (by kernel_rfl) rfl #[.string (rdOf ByteArray.empty l0 x4_1)] rfl (by (try simp only [List.map_toArray, List.map_cons, List.map_nil]); first | done | rfl | (simp only [List.length_drop, List.length_take]; rfl)) ?_; (with_reducible refine (tripartiteref01_Run.calls k1 (rdOf ByteArray.empty l0 x4_1) t175 _ A4.out).mono ?_); rintro e w' ⟨rfl, ⟨nd, rfl⟩⟩; refine ⟨_, rfl, ?_⟩))
          go_roundg k1
          case measure => have := HK1.out; omega
          case rel => exact ⟨(ji5), (wrap64 (x4_1 + 1)), (by first | rfl | (simp; done) | (simp only [← hji5] <;> (first | rfl | simp)) | (simp [*]; done)), (by first | rfl | (simp; done) | (simp [*]; done)), H', ⟨by have := HK1.out; omega⟩, ⟨by repeat (first | (with_reducible first | exact HB.out | apply below_alloc | apply pw_below_drewN | apply below_drew1) | exact HB.out)⟩⟩
        · rw [if_neg c3] at H
          exact absurd H (by simp)
      · rw [if_neg c2] at H
        have c2b0 : decide (x4_1 < (l0.length : Int)) = false := decide_eq_false c2
        clear c2
        obtain rfl := Option.some.inj H
        go_wp2
        go_ret
        exact ⟨by first | rfl | (simp [errW_none, errW_some] <;> rfl) | (simp [*, errW_none, errW_some] <;> rfl), by repeat (first | (with_reducible first | exact HB.out | apply below_alloc | apply pw_below_drewN | apply below_drew1) | exact HB.out)⟩
end Go.Proofs.Ytfiamddinkokbaa.F
end

section
set_option linter.unusedVariables false
set_option linter.unusedSimpArgs false
namespace Go.Proofs.Ytfiamddinkokbaa.F
open Go.RowKit Go.Proofs.YtfiamddinkokbaaW.PrintWords Go.Proofs.YtfiamddinkokbaaW.PrintLast Go.Proofs.YtfiamddinkokbaaW.PrintMore
attribute [local go_sem] max2_int min2_int max_two min_two max_three min_three max_four min_four
set_option linter.unusedVariables false
set_option linter.unusedSimpArgs false
def tripartiteref07_Run.f (k : Nat) (a0 : ByteArray) : Option (Int) := (tripartiteref01_Split.f k a0).bind fun t176 => ((tripartiteref01_Longest.f k t176).bind fun t179 => (some t179))
theorem tripartiteref07_Run.mono : ∀ a0 k, LeO (tripartiteref07_Run.f k a0) (tripartiteref07_Run.f (k + 1) a0) := by
  intro a0 k
  unfold tripartiteref07_Run.f
  repeat' first
      | (with_reducible exact tripartiteref01_Longest.mono _ _)
      | (with_reducible exact tripartiteref01_Split.mono _ _)
      | (with_reducible exact LeO.refl _)
      | (with_reducible exact LeO.none _)
      | (with_reducible refine LeO.ite ?_ ?_)
      | (with_reducible refine LeO.bind ?_ (fun _ => ?_))
      | exact tripartiteref01_Longest.mono _ _
      | exact tripartiteref01_Split.mono _ _
      | exact LeO.none _
      | refine LeO.ite ?_ ?_
      | refine LeO.bind ?_ (fun _ => ?_)
set_option maxHeartbeats 8000000 in
set_option maxRecDepth 100000 in
theorem tripartiteref07_Run.calls (k : Nat) (a0 : ByteArray) (r : Int) (w : World) (h : tripartiteref07_Run.f k a0 = some r) :
    Calls Try.prog 21 #[.string a0] w fun e w' => e = .returned (.int .i64 r) ∧ Below w.heap.size w w' := by
  have HB := Aside0.mk (Below.refl w.heap.size w)
  have H : ((tripartiteref01_Split.f k a0).bind fun t176 => ((tripartiteref01_Longest.f k t176).bind fun t179 => (some t179))) = some r := h
  clear h
  replace H := Option.bind_eq_some_iff.mp H
  obtain ⟨t176, A20, H⟩ := H
  replace H : ((tripartiteref01_Longest.f k t176).bind fun t179 => (some t179)) = some r := H
  have A2 := Aside0.mk A20
  clear A20
  replace H := Option.bind_eq_some_iff.mp H
  obtain ⟨t179, A30, H⟩ := H
  replace H : (some t179) = some r := H
  have A3 := Aside0.mk A30
  clear A30
  obtain rfl := Option.some.inj H
  go_enter Try.func21, Try.ntmps21
  go_wp2_with (first | ((with_reducible refine gate_callee (f := 32) rfl ?_); refine goesL_ (some 4) rfl rfl Try.func32 (by kernel_rfl) rfl #[.string a0] rfl (by (try simp only [List.map_toArray, List.map_cons, List.map_nil]); first | done | rfl | (simp only [List.length_drop, List.length_take]; rfl)) ?_; (with_reducible refine (tripartiteref01_Split.calls k a0 t176 _ A2.out).mono ?_); rintro e w4 ⟨v177, rfl, ho0, hb⟩; refine ⟨_, rfl, ?_⟩; have n0_ := Aside0.mk (Kd.R_lower ho0 (below_size (by repeat (first | (with_reducible first | exact HB.out | apply below_alloc | apply pw_below_drewN | apply below_drew1) | exact HB.out)))); have n1_ := Aside0.mk (below_step (by repeat (first | (with_reducible first | exact HB.out | apply below_alloc | apply pw_below_drewN | apply below_drew1) | exact HB.out)) hb); clear HB; have HO178 := n0_; have HB := n1_; clear n0_ n1_; (try clear hb); (try clear hb2); (try clear hk); (try clear hi); (try clear ho0); obtain ⟨Ao5, co5, eo5⟩ := Kd.R_slice HO178.out; subst eo5) | ((with_reducible refine gate_callee (f := 41) rfl ?_); refine goesL_ (some 5) rfl rfl Try.func41 (by kernel_rfl) rfl #[.slice Ao5 t176.length co5] rfl (by (try simp only [List.map_toArray, List.map_cons, List.map_nil]); first | done | rfl | (simp only [List.length_drop, List.length_take]; rfl)) ?_; (with_reducible refine (tripartiteref01_Longest.calls k _ _ t176 t179 _ ?side1 ?side2 A3.out).mono ?_); (case side1 => repeat (first | exact (Kd.R_reads' HO178.out).2.2 | (with_reducible refine Kd.C_alloc ?_ _) | (with_reducible refine Kd.C_drewN ?_ _) | (with_reducible refine Kd.C_drew ?_))); (case side2 => exact (Kd.R_reads' HO178.out).2.1); rintro e w6 ⟨rfl, hb⟩; refine ⟨_, rfl, ?_⟩; have n0_ := Aside0.mk (Kd.R_below (by (with_reducible repeat (first | apply Kd.R_alloc | apply Kd.R_drewN | apply Kd.R_drew)); exact HO178.out) hb); have n1_ := Aside0.mk (below_step (by repeat (first | (with_reducible first | exact HB.out | apply below_alloc | apply pw_below_drewN | apply below_drew1) | exact HB.out)) hb); clear HO178; clear HB; have HO178 := n0_; have HB := n1_; clear n0_ n1_; (try clear hb); (try clear hb2); (try clear hk); (try clear hi)))
  go_ret
  exact ⟨by first | rfl | (simp [errW_none, errW_some] <;> rfl) | (simp [*, errW_none, errW_some] <;> rfl), by repeat (first | (with_reducible first | exact HB.out | apply below_alloc | apply pw_below_drewN | apply below_drew1) | exact HB.out)⟩
end Go.Proofs.Ytfiamddinkokbaa.F
end

section
set_option linter.unusedVariables false
set_option linter.unusedSimpArgs false
namespace Go.Proofs.Ytfiamddinkokbaa.F
open Go.RowKit Go.Proofs.YtfiamddinkokbaaW.PrintWords Go.Proofs.YtfiamddinkokbaaW.PrintLast Go.Proofs.YtfiamddinkokbaaW.PrintMore
attribute [local go_sem] max2_int min2_int max_two min_two max_three min_three max_four min_four
set_option linter.unusedVariables false
set_option linter.unusedSimpArgs false
def tripartiteref07_Fits.l0 : Nat → List (S109) → Int → Int → Option (Bool)
  | 0, _, _, _ => none
  | k + 1, x0, x1, x5 => if x5 < (x0.length : Int) then (if 0 ≤ x5 then ((tripartiteref07_Run.f k ((rd_T109 x0 x5).f4)).bind fun t395 => (if t395 ≥ x1 then (some false) else ((tripartiteref07_Run.f k ((rd_T109 x0 x5).f5)).bind fun t396 => (if t396 ≥ x1 then (some false) else ((tripartiteref07_Run.f k ((rd_T109 x0 x5).f6)).bind fun t397 => (if t397 ≥ x1 then (some false) else ((tripartiteref07_Run.f k ((rd_T109 x0 x5).f7)).bind fun t398 => (if t398 ≥ x1 then (some false) else (tripartiteref07_Fits.l0 k x0 x1 (wrap64 (x5 + 1))))))))))) else (none)) else (some true)
def tripartiteref07_Fits.f (k : Nat) (l0 : List (S109)) (a1 : Int) : Option (Bool) := if a1 < 1 then (some false) else (tripartiteref07_Fits.l0 k l0 a1 0)
theorem tripartiteref07_Fits.mono_l : ∀ k, (∀ y0 y1 y2, LeO (tripartiteref07_Fits.l0 k y0 y1 y2) (tripartiteref07_Fits.l0 (k + 1) y0 y1 y2))
  | 0 => fun _ _ _ r h => by simp [tripartiteref07_Fits.l0] at h
  | k + 1 => by
    have ih0 := tripartiteref07_Fits.mono_l k
    · intro y0 y1 y2
      unfold tripartiteref07_Fits.l0
      repeat' first
      | (with_reducible exact ih0 _ _ _)
      | (with_reducible exact tripartiteref07_Run.mono _ _)
      | (with_reducible exact LeO.refl _)
      | (with_reducible exact LeO.none _)
      | (with_reducible refine LeO.ite ?_ ?_)
      | (with_reducible refine LeO.bind ?_ (fun _ => ?_))
      | exact ih0 _ _ _
      | exact tripartiteref07_Run.mono _ _
      | exact LeO.none _
      | refine LeO.ite ?_ ?_
      | refine LeO.bind ?_ (fun _ => ?_)
theorem tripartiteref07_Fits.mono : ∀ a0 a1 k, LeO (tripartiteref07_Fits.f k a0 a1) (tripartiteref07_Fits.f (k + 1) a0 a1) := by
  intro a0 a1 k
  have ih0 := tripartiteref07_Fits.mono_l k
  unfold tripartiteref07_Fits.f
  repeat' first
      | (with_reducible exact ih0 _ _ _)
      | (with_reducible exact tripartiteref07_Run.mono _ _)
      | (with_reducible exact LeO.refl _)
      | (with_reducible exact LeO.none _)
      | (with_reducible refine LeO.ite ?_ ?_)
      | (with_reducible refine LeO.bind ?_ (fun _ => ?_))
      | exact ih0 _ _ _
      | exact tripartiteref07_Run.mono _ _
      | exact LeO.none _
      | refine LeO.ite ?_ ?_
      | refine LeO.bind ?_ (fun _ => ?_)
set_option maxHeartbeats 8000000 in
set_option maxRecDepth 100000 in
theorem tripartiteref07_Fits.calls (k : Nat) (A0 : Option Addr) (c0 : Nat) (l0 : List (S109)) (a1 : Int) (r : Bool) (w : World) (hr0 : Kd.C k109 w A0 l0.length l0) (hc0 : l0.length ≤ c0) (h : tripartiteref07_Fits.f k l0 a1 = some r) :
    Calls Try.prog 92 #[.slice A0 l0.length c0, .int .i64 a1] w fun e w' => e = .returned (.bool r) ∧ Below w.heap.size w w' := by
  have hu109 := Try.underlying109
  have HR0 := Aside0.mk hr0
  have HC0 := Aside0.mk hc0
  clear hr0 hc0
  have HB := Aside0.mk (Below.refl w.heap.size w)
  have H : (if a1 < 1 then (some false) else (tripartiteref07_Fits.l0 k l0 a1 0)) = some r := h
  clear h
  by_cases c3 : a1 < 1
  · rw [if_pos c3] at H
    have c3b0 : decide (a1 < 1) = true := decide_eq_true c3
    clear c3
    obtain rfl := Option.some.inj H
    go_enter Try.func92, Try.ntmps92
    go_wp2
    go_ret
    exact ⟨by first | rfl | (simp [errW_none, errW_some] <;> rfl) | (simp [*, errW_none, errW_some] <;> rfl), by repeat (first | (with_reducible first | exact HB.out | apply below_alloc | apply pw_below_drewN | apply below_drew1) | exact HB.out)⟩
  · rw [if_neg c3] at H
    have c3b0 : decide (a1 < 1) = false := decide_eq_false c3
    clear c3
    have H' := Aside0.mk H
    clear H
    go_enter Try.func92, Try.ntmps92
    go_wp2
    go_loopg [5] k (fun kq v5 w' => ∃ (x5_1 : Int), v5 = .int .i64 x5_1 ∧ Aside0 (tripartiteref07_Fits.l0 kq l0 a1 x5_1 = some r) ∧ Aside0 (kq ≤ k) ∧ Aside0 (Below w.heap.size w w'))
    case atStart => exact ⟨(0), (by first | rfl | (simp; done) | (simp [*]; done)), H', ⟨Nat.le_refl _⟩, ⟨by repeat (first | (with_reducible first | exact HB.out | apply below_alloc | apply pw_below_drewN | apply below_drew1) | exact HB.out)⟩⟩
    case round =>
      clear H'
      try clear p2
      try clear c3
      try clear c3b0
      obtain ⟨x5_1, rfl, HA, HK1, HB⟩ := hrel
      cases gk with
      | zero => exact absurd HA.out (by simp [tripartiteref07_Fits.l0])
      | succ k1 =>
        have H := HA.out
        clear HA
        simp only [tripartiteref07_Fits.l0] at H
        by_cases c4 : x5_1 < (l0.length : Int)
        · rw [if_pos c4] at H
          have c4b0 : decide (x5_1 < (l0.length : Int)) = true := decide_eq_true c4
          clear c4
          by_cases c5 : 0 ≤ x5_1
          · rw [if_pos c5] at H
            have c5b0 : decide (0 ≤ x5_1) = true := decide_eq_true c5
            clear c5
            replace H := Option.bind_eq_some_iff.mp H
            obtain ⟨t395, A60, H⟩ := H
            replace H : (if t395 ≥ a1 then (some false) else ((tripartiteref07_Run.f k1 ((rd_T109 l0 x5_1).f5)).bind fun t396 => (if t396 ≥ a1 then (some false) else ((tripartiteref07_Run.f k1 ((rd_T109 l0 x5_1).f6)).bind fun t397 => (if t397 ≥ a1 then (some false) else ((tripartiteref07_Run.f k1 ((rd_T109 l0 x5_1).f7)).bind fun t398 => (if t398 ≥ a1 then (some false) else (tripartiteref07_Fits.l0 k1 l0 a1 (wrap64 (x5_1 + 1)))))))))) = some r := H
            have A6 := Aside0.mk A60
            clear A60
            by_cases c7 : t395 ≥ a1
            · rw [if_pos c7] at H
              have c7b0 : decide (a1 ≤ t395) = true := decide_eq_true c7
              clear c7
              obtain rfl := Option.some.inj H
              have p393 : 0 ≤ (x5_1 : Int) := of_decide_eq_true (by first | (with_reducible assumption) | assumption)
              have q393 : x5_1 < (l0.length : Int) := of_decide_eq_true (by first | (with_reducible assumption) | assumption)
              obtain ⟨ad393, e393, hx393_0, hx393_1, hx393_2, hx393_3, hx393_4, hx393_5, hx393_6, hx393_7, hx393_8⟩ := at_T109 HR0.out x5_1 p393 q393
              cases e393
              replace hx393_0 := (HB.out.cell (World.block_lt_of_cell? w _ hx393_0)).trans hx393_0
              replace hx393_1 := (HB.out.cell (World.block_lt_of_cell? w _ hx393_1)).trans hx393_1
              replace hx393_2 := (HB.out.cell (World.block_lt_of_cell? w _ hx393_2)).trans hx393_2
              replace hx393_3 := (HB.out.cell (World.block_lt_of_cell? w _ hx393_3)).trans hx393_3
              replace hx393_4 := (HB.out.cell (World.block_lt_of_cell? w _ hx393_4)).trans hx393_4
              replace hx393_5 := (HB.out.cell (World.block_lt_of_cell? w _ hx393_5)).trans hx393_5
              replace hx393_6 := (HB.out.cell (World.block_lt_of_cell? w _ hx393_6)).trans hx393_6
              replace hx393_7 := (HB.out.cell (World.block_lt_of_cell? w _ hx393_7)).trans hx393_7
              replace hx393_8 := (HB.out.cell (World.block_lt_of_cell? w _ hx393_8)).trans hx393_8
              replace p393 := eq_true p393
              replace q393 := eq_true q393
              go_wp2_with (first | ((with_reducible refine gate_dst (N := 6) rfl ?_); refine box_event ?hg (N := 6) ?hd (cs := #[.string (⟨#[]⟩ : ByteArray), .string (⟨#[]⟩ : ByteArray), .string (⟨#[]⟩ : ByteArray), .bool false, .string (⟨#[]⟩ : ByteArray), .string (⟨#[]⟩ : ByteArray), .string (⟨#[]⟩ : ByteArray), .string (⟨#[]⟩ : ByteArray), .bool false]) (t := 109) ?hr ?_; (case hd => rfl); (case hg => rfl); (case hr => first | (go_simp; done) | (go_simp; rfl)); intro gb394 hg w8 hbox hb; have n0_ := Aside0.mk (below_step (by repeat (first | (with_reducible first | exact HB.out | apply below_alloc | apply pw_below_drewN | apply below_drew1) | exact HB.out)) hb); have n1_ := Aside0.mk (hbox); have n2_ := Aside0.mk ((by rw [hg]; exact (below_size (by repeat (first | (with_reducible first | exact HB.out | apply below_alloc | apply pw_below_drewN | apply below_drew1) | exact HB.out))) : w.heap.size ≤ gb394)); have n3_ := Aside0.mk ((by rw [hg]; exact (below_size (by repeat (first | (with_reducible first | exact HB.out | apply below_alloc | apply pw_below_drewN | apply below_drew1) | exact HB.out))) : w.heap.size ≤ gb394)); clear HB; have HB := n0_; have BK394 := n1_; have GW394 := n2_; have GE394 := n3_; clear n0_ n1_ n2_ n3_; clear hb hbox hg; have hcz9_0 : w8.cell? ⟨gb394, 0, none⟩ = some (.string (⟨#[]⟩ : ByteArray)) := (blk_cell BK394.out 0).trans rfl; have hcz9_1 : w8.cell? ⟨gb394, 1, none⟩ = some (.string (⟨#[]⟩ : ByteArray)) := (blk_cell BK394.out 1).trans rfl; have hcz9_2 : w8.cell? ⟨gb394, 2, none⟩ = some (.string (⟨#[]⟩ : ByteArray)) := (blk_cell BK394.out 2).trans rfl; have hcz9_3 : w8.cell? ⟨gb394, 3, none⟩ = some (.bool false) := (blk_cell BK394.out 3).trans rfl; have hcz9_4 : w8.cell? ⟨gb394, 4, none⟩ = some (.string (⟨#[]⟩ : ByteArray)) := (blk_cell BK394.out 4).trans rfl; have hcz9_5 : w8.cell? ⟨gb394, 5, none⟩ = some (.string (⟨#[]⟩ : ByteArray)) := (blk_cell BK394.out 5).trans rfl; have hcz9_6 : w8.cell? ⟨gb394, 6, none⟩ = some (.string (⟨#[]⟩ : ByteArray)) := (blk_cell BK394.out 6).trans rfl; have hcz9_7 : w8.cell? ⟨gb394, 7, none⟩ = some (.string (⟨#[]⟩ : ByteArray)) := (blk_cell BK394.out 7).trans rfl; have hcz9_8 : w8.cell? ⟨gb394, 8, none⟩ = some (.bool false) := (blk_cell BK394.out 8).trans rfl; have hfz9_0 := blk_frozen BK394.out 0; have hfz9_1 := blk_frozen BK394.out 1; have hfz9_2 := blk_frozen BK394.out 2; have hfz9_3 := blk_frozen BK394.out 3; have hfz9_4 := blk_frozen BK394.out 4; have hfz9_5 := blk_frozen BK394.out 5; have hfz9_6 := blk_frozen BK394.out 6; have hfz9_7 := blk_frozen BK394.out 7; have hfz9_8 := blk_frozen BK394.out 8) | ((with_reducible refine gate_callee (f := 21) rfl ?_); refine goesL_ (some 21) rfl rfl Try.func21 (by kernel_rfl) rfl #[.string ((rd_T109 l0 x5_1).f4)] rfl (by (try simp only [List.map_toArray, List.map_cons, List.map_nil]); first | done | rfl | (simp only [List.length_drop, List.length_take]; rfl)) ?_; (with_reducible refine (tripartiteref07_Run.calls k1 ((rd_T109 l0 x5_1).f4) t395 _ A6.out).mono ?_); rintro e w10 ⟨rfl, hb⟩; refine ⟨_, rfl, ?_⟩; have n0_ := Aside0.mk (blk_below (g := gb394) (o := .cells #[.string ((rd_T109 l0 x5_1).f0), .string ((rd_T109 l0 x5_1).f1), .string ((rd_T109 l0 x5_1).f2), .bool ((rd_T109 l0 x5_1).f3), .string ((rd_T109 l0 x5_1).f4), .string ((rd_T109 l0 x5_1).f5), .string ((rd_T109 l0 x5_1).f6), .string ((rd_T109 l0 x5_1).f7), .bool ((rd_T109 l0 x5_1).f8)] 109 (0, 0)) (by (with_reducible repeat (first | refine blk_drewN ?_ _ | refine blk_drew ?_ | refine blk_alloc ?_ _)); refine blk_put (cs := #[.string ((rd_T109 l0 x5_1).f0), .string ((rd_T109 l0 x5_1).f1), .string ((rd_T109 l0 x5_1).f2), .bool ((rd_T109 l0 x5_1).f3), .string ((rd_T109 l0 x5_1).f4), .string ((rd_T109 l0 x5_1).f5), .string ((rd_T109 l0 x5_1).f6), .string ((rd_T109 l0 x5_1).f7), .bool false]) ?_ 8 _ rfl; (with_reducible repeat (first | refine blk_drewN ?_ _ | refine blk_drew ?_ | refine blk_alloc ?_ _)); refine blk_put (cs := #[.string ((rd_T109 l0 x5_1).f0), .string ((rd_T109 l0 x5_1).f1), .string ((rd_T109 l0 x5_1).f2), .bool ((rd_T109 l0 x5_1).f3), .string ((rd_T109 l0 x5_1).f4), .string ((rd_T109 l0 x5_1).f5), .string ((rd_T109 l0 x5_1).f6), .string (⟨#[]⟩ : ByteArray), .bool false]) ?_ 7 _ rfl; (with_reducible repeat (first | refine blk_drewN ?_ _ | refine blk_drew ?_ | refine blk_alloc ?_ _)); refine blk_put (cs := #[.string ((rd_T109 l0 x5_1).f0), .string ((rd_T109 l0 x5_1).f1), .string ((rd_T109 l0 x5_1).f2), .bool ((rd_T109 l0 x5_1).f3), .string ((rd_T109 l0 x5_1).f4), .string ((rd_T109 l0 x5_1).f5), .string (⟨#[]⟩ : ByteArray), .string (⟨#[]⟩ : ByteArray), .bool false]) ?_ 6 _ rfl; (with_reducible repeat (first | refine blk_drewN ?_ _ | refine blk_drew ?_ | refine blk_alloc ?_ _)); refine blk_put (cs := #[.string ((rd_T109 l0 x5_1).f0), .string ((rd_T109 l0 x5_1).f1), .string ((rd_T109 l0 x5_1).f2), .bool ((rd_T109 l0 x5_1).f3), .string ((rd_T109 l0 x5_1).f4), .string (⟨#[]⟩ : ByteArray), .string (⟨#[]⟩ : ByteArray), .string (⟨#[]⟩ : ByteArray), .bool false]) ?_ 5 _ rfl; (with_reducible repeat (first | refine blk_drewN ?_ _ | refine blk_drew ?_ | refine blk_alloc ?_ _)); refine blk_put (cs := #[.string ((rd_T109 l0 x5_1).f0), .string ((rd_T109 l0 x5_1).f1), .string ((rd_T109 l0 x5_1).f2), .bool ((rd_T109 l0 x5_1).f3), .string (⟨#[]⟩ : ByteArray), .string (⟨#[]⟩ : ByteArray), .string (⟨#[]⟩ : ByteArray), .string (⟨#[]⟩ : ByteArray), .bool false]) ?_ 4 _ rfl; (with_reducible repeat (first | refine blk_drewN ?_ _ | refine blk_drew ?_ | refine blk_alloc ?_ _)); refine blk_put (cs := #[.string ((rd_T109 l0 x5_1).f0), .string ((rd_T109 l0 x5_1).f1), .string ((rd_T109 l0 x5_1).f2), .bool false, .string (⟨#[]⟩ : ByteArray), .string (⟨#[]⟩ : ByteArray), .string (⟨#[]⟩ : ByteArray), .string (⟨#[]⟩ : ByteArray), .bool false]) ?_ 3 _ rfl; (with_reducible repeat (first | refine blk_drewN ?_ _ | refine blk_drew ?_ | refine blk_alloc ?_ _)); refine blk_put (cs := #[.string ((rd_T109 l0 x5_1).f0), .string ((rd_T109 l0 x5_1).f1), .string (⟨#[]⟩ : ByteArray), .bool false, .string (⟨#[]⟩ : ByteArray), .string (⟨#[]⟩ : ByteArray), .string (⟨#[]⟩ : ByteArray), .string (⟨#[]⟩ : ByteArray), .bool false]) ?_ 2 _ rfl; (with_reducible repeat (first | refine blk_drewN ?_ _ | refine blk_drew ?_ | refine blk_alloc ?_ _)); refine blk_put (cs := #[.string ((rd_T109 l0 x5_1).f0), .string (⟨#[]⟩ : ByteArray), .string (⟨#[]⟩ : ByteArray), .bool false, .string (⟨#[]⟩ : ByteArray), .string (⟨#[]⟩ : ByteArray), .string (⟨#[]⟩ : ByteArray), .string (⟨#[]⟩ : ByteArray), .bool false]) ?_ 1 _ rfl; (with_reducible repeat (first | refine blk_drewN ?_ _ | refine blk_drew ?_ | refine blk_alloc ?_ _)); refine blk_put (cs := #[.string (⟨#[]⟩ : ByteArray), .string (⟨#[]⟩ : ByteArray), .string (⟨#[]⟩ : ByteArray), .bool false, .string (⟨#[]⟩ : ByteArray), .string (⟨#[]⟩ : ByteArray), .string (⟨#[]⟩ : ByteArray), .string (⟨#[]⟩ : ByteArray), .bool false]) ?_ 0 _ rfl; (with_reducible repeat (first | refine blk_drewN ?_ _ | refine blk_drew ?_ | refine blk_alloc ?_ _)); exact BK394.out) hb); have n1_ := Aside0.mk (below_step (by repeat (first | (with_reducible first | exact HB.out | apply below_alloc | apply pw_below_drewN | apply below_drew1 | refine below_set ?_ GE394.out) | exact HB.out)) hb); clear BK394; clear HB; have BK394 := n0_; have HB := n1_; clear n0_ n1_; (try clear hb); (try clear hb2); (try clear hk); (try clear hi)))
              go_ret
              exact ⟨by first | rfl | (simp [errW_none, errW_some] <;> rfl) | (simp [*, errW_none, errW_some] <;> rfl), by repeat (first | (with_reducible first | exact HB.out | apply below_alloc | apply pw_below_drewN | apply below_drew1 | refine below_set ?_ GE394.out) | exact HB.out)⟩
            · rw [if_neg c7] at H
              have c7b0 : decide (a1 ≤ t395) = false := decide_eq_false c7
              clear c7
              replace H := Option.bind_eq_some_iff.mp H
              obtain ⟨t396, A110, H⟩ := H
              replace H : (if t396 ≥ a1 then (some false) else ((tripartiteref07_Run.f k1 ((rd_T109 l0 x5_1).f6)).bind fun t397 => (if t397 ≥ a1 then (some false) else ((tripartiteref07_Run.f k1 ((rd_T109 l0 x5_1).f7)).bind fun t398 => (if t398 ≥ a1 then (some false) else (tripartiteref07_Fits.l0 k1 l0 a1 (wrap64 (x5_1 + 1)))))))) = some r := H
              have A11 := Aside0.mk A110
              clear A110
              by_cases c12 : t396 ≥ a1
              · rw [if_pos c12] at H
                have c12b0 : decide (a1 ≤ t396) = true := decide_eq_true c12
                clear c12
                obtain rfl := Option.some.inj H
                have p393 : 0 ≤ (x5_1 : Int) := of_decide_eq_true (by first | (with_reducible assumption) | assumption)
                have q393 : x5_1 < (l0.length : Int) := of_decide_eq_true (by first | (with_reducible assumption) | assumption)
                obtain ⟨ad393, e393, hx393_0, hx393_1, hx393_2, hx393_3, hx393_4, hx393_5, hx393_6, hx393_7, hx393_8⟩ := at_T109 HR0.out x5_1 p393 q393
                cases e393
                replace hx393_0 := (HB.out.cell (World.block_lt_of_cell? w _ hx393_0)).trans hx393_0
                replace hx393_1 := (HB.out.cell (World.block_lt_of_cell? w _ hx393_1)).trans hx393_1
                replace hx393_2 := (HB.out.cell (World.block_lt_of_cell? w _ hx393_2)).trans hx393_2
                replace hx393_3 := (HB.out.cell (World.block_lt_of_cell? w _ hx393_3)).trans hx393_3
                replace hx393_4 := (HB.out.cell (World.block_lt_of_cell? w _ hx393_4)).trans hx393_4
                replace hx393_5 := (HB.out.cell (World.block_lt_of_cell? w _ hx393_5)).trans hx393_5
                replace hx393_6 := (HB.out.cell (World.block_lt_of_cell? w _ hx393_6)).trans hx393_6
                replace hx393_7 := (HB.out.cell (World.block_lt_of_cell? w _ hx393_7)).trans hx393_7
                replace hx393_8 := (HB.out.cell (World.block_lt_of_cell? w _ hx393_8)).trans hx393_8
                replace p393 := eq_true p393
                replace q393 := eq_true q393
                go_wp2_with (first | ((with_reducible refine gate_dst (N := 6) rfl ?_); refine box_event ?hg (N := 6) ?hd (cs := #[.string (⟨#[]⟩ : ByteArray), .string (⟨#[]⟩ : ByteArray), .string (⟨#[]⟩ : ByteArray), .bool false, .string (⟨#[]⟩ : ByteArray), .string (⟨#[]⟩ : ByteArray), .string (⟨#[]⟩ : ByteArray), .string (⟨#[]⟩ : ByteArray), .bool false]) (t := 109) ?hr ?_; (case hd => rfl); (case hg => rfl); (case hr => first | (go_simp; done) | (go_simp; rfl)); intro gb394 hg w13 hbox hb; have n0_ := Aside0.mk (below_step (by repeat (first | (with_reducible first | exact HB.out | apply below_alloc | apply pw_below_drewN | apply below_drew1) | exact HB.out)) hb); have n1_ := Aside0.mk (hbox); have n2_ := Aside0.mk ((by rw [hg]; exact (below_size (by repeat (first | (with_reducible first | exact HB.out | apply below_alloc | apply pw_below_drewN | apply below_drew1) | exact HB.out))) : w.heap.size ≤ gb394)); have n3_ := Aside0.mk ((by rw [hg]; exact (below_size (by repeat (first | (with_reducible first | exact HB.out | apply below_alloc | apply pw_below_drewN | apply below_drew1) | exact HB.out))) : w.heap.size ≤ gb394)); clear HB; have HB := n0_; have BK394 := n1_; have GW394 := n2_; have GE394 := n3_; clear n0_ n1_ n2_ n3_; clear hb hbox hg; have hcz14_0 : w13.cell? ⟨gb394, 0, none⟩ = some (.string (⟨#[]⟩ : ByteArray)) := (blk_cell BK394.out 0).trans rfl; have hcz14_1 : w13.cell? ⟨gb394, 1, none⟩ = some (.string (⟨#[]⟩ : ByteArray)) := (blk_cell BK394.out 1).trans rfl; have hcz14_2 : w13.cell? ⟨gb394, 2, none⟩ = some (.string (⟨#[]⟩ : ByteArray)) := (blk_cell BK394.out 2).trans rfl; have hcz14_3 : w13.cell? ⟨gb394, 3, none⟩ = some (.bool false) := (blk_cell BK394.out 3).trans rfl; have hcz14_4 : w13.cell? ⟨gb394, 4, none⟩ = some (.string (⟨#[]⟩ : ByteArray)) := (blk_cell BK394.out 4).trans rfl; have hcz14_5 : w13.cell? ⟨gb394, 5, none⟩ = some (.string (⟨#[]⟩ : ByteArray)) := (blk_cell BK394.out 5).trans rfl; have hcz14_6 : w13.cell? ⟨gb394, 6, none⟩ = some (.string (⟨#[]⟩ : ByteArray)) := (blk_cell BK394.out 6).trans rfl; have hcz14_7 : w13.cell? ⟨gb394, 7, none⟩ = some (.string (⟨#[]⟩ : ByteArray)) := (blk_cell BK394.out 7).trans rfl; have hcz14_8 : w13.cell? ⟨gb394, 8, none⟩ = some (.bool false) := (blk_cell BK394.out 8).trans rfl; have hfz14_0 := blk_frozen BK394.out 0; have hfz14_1 := blk_frozen BK394.out 1; have hfz14_2 := blk_frozen BK394.out 2; have hfz14_3 := blk_frozen BK394.out 3; have hfz14_4 := blk_frozen BK394.out 4; have hfz14_5 := blk_frozen BK394.out 5; have hfz14_6 := blk_frozen BK394.out 6; have hfz14_7 := blk_frozen BK394.out 7; have hfz14_8 := blk_frozen BK394.out 8) | ((with_reducible refine gate_callee (f := 21) rfl ?_); refine goesL_ (some 21) rfl rfl Try.func21 (by kernel_rfl) rfl #[.string ((rd_T109 l0 x5_1).f4)] rfl (by (try simp only [List.map_toArray, List.map_cons, List.map_nil]); first | done | rfl | (simp only [List.length_drop, List.length_take]; rfl)) ?_; (with_reducible refine (tripartiteref07_Run.calls k1 ((rd_T109 l0 x5_1).f4) t395 _ A6.out).mono ?_); rintro e w15 ⟨rfl, hb⟩; refine ⟨_, rfl, ?_⟩; have n0_ := Aside0.mk (blk_below (g := gb394) (o := .cells #[.string ((rd_T109 l0 x5_1).f0), .string ((rd_T109 l0 x5_1).f1), .string ((rd_T109 l0 x5_1).f2), .bool ((rd_T109 l0 x5_1).f3), .string ((rd_T109 l0 x5_1).f4), .string ((rd_T109 l0 x5_1).f5), .string ((rd_T109 l0 x5_1).f6), .string ((rd_T109 l0 x5_1).f7), .bool ((rd_T109 l0 x5_1).f8)] 109 (0, 0)) (by (with_reducible repeat (first | refine blk_drewN ?_ _ | refine blk_drew ?_ | refine blk_alloc ?_ _)); refine blk_put (cs := #[.string ((rd_T109 l0 x5_1).f0), .string ((rd_T109 l0 x5_1).f1), .string ((rd_T109 l0 x5_1).f2), .bool ((rd_T109 l0 x5_1).f3), .string ((rd_T109 l0 x5_1).f4), .string ((rd_T109 l0 x5_1).f5), .string ((rd_T109 l0 x5_1).f6), .string ((rd_T109 l0 x5_1).f7), .bool false]) ?_ 8 _ rfl; (with_reducible repeat (first | refine blk_drewN ?_ _ | refine blk_drew ?_ | refine blk_alloc ?_ _)); refine blk_put (cs := #[.string ((rd_T109 l0 x5_1).f0), .string ((rd_T109 l0 x5_1).f1), .string ((rd_T109 l0 x5_1).f2), .bool ((rd_T109 l0 x5_1).f3), .string ((rd_T109 l0 x5_1).f4), .string ((rd_T109 l0 x5_1).f5), .string ((rd_T109 l0 x5_1).f6), .string (⟨#[]⟩ : ByteArray), .bool false]) ?_ 7 _ rfl; (with_reducible repeat (first | refine blk_drewN ?_ _ | refine blk_drew ?_ | refine blk_alloc ?_ _)); refine blk_put (cs := #[.string ((rd_T109 l0 x5_1).f0), .string ((rd_T109 l0 x5_1).f1), .string ((rd_T109 l0 x5_1).f2), .bool ((rd_T109 l0 x5_1).f3), .string ((rd_T109 l0 x5_1).f4), .string ((rd_T109 l0 x5_1).f5), .string (⟨#[]⟩ : ByteArray), .string (⟨#[]⟩ : ByteArray), .bool false]) ?_ 6 _ rfl; (with_reducible repeat (first | refine blk_drewN ?_ _ | refine blk_drew ?_ | refine blk_alloc ?_ _)); refine blk_put (cs := #[.string ((rd_T109 l0 x5_1).f0), .string ((rd_T109 l0 x5_1).f1), .string ((rd_T109 l0 x5_1).f2), .bool ((rd_T109 l0 x5_1).f3), .string ((rd_T109 l0 x5_1).f4), .string (⟨#[]⟩ : ByteArray), .string (⟨#[]⟩ : ByteArray), .string (⟨#[]⟩ : ByteArray), .bool false]) ?_ 5 _ rfl; (with_reducible repeat (first | refine blk_drewN ?_ _ | refine blk_drew ?_ | refine blk_alloc ?_ _)); refine blk_put (cs := #[.string ((rd_T109 l0 x5_1).f0), .string ((rd_T109 l0 x5_1).f1), .string ((rd_T109 l0 x5_1).f2), .bool ((rd_T109 l0 x5_1).f3), .string (⟨#[]⟩ : ByteArray), .string (⟨#[]⟩ : ByteArray), .string (⟨#[]⟩ : ByteArray), .string (⟨#[]⟩ : ByteArray), .bool false]) ?_ 4 _ rfl; (with_reducible repeat (first | refine blk_drewN ?_ _ | refine blk_drew ?_ | refine blk_alloc ?_ _)); refine blk_put (cs := #[.string ((rd_T109 l0 x5_1).f0), .string ((rd_T109 l0 x5_1).f1), .string ((rd_T109 l0 x5_1).f2), .bool false, .string (⟨#[]⟩ : ByteArray), .string (⟨#[]⟩ : ByteArray), .string (⟨#[]⟩ : ByteArray), .string (⟨#[]⟩ : ByteArray), .bool false]) ?_ 3 _ rfl; (with_reducible repeat (first | refine blk_drewN ?_ _ | refine blk_drew ?_ | refine blk_alloc ?_ _)); refine blk_put (cs := #[.string ((rd_T109 l0 x5_1).f0), .string ((rd_T109 l0 x5_1).f1), .string (⟨#[]⟩ : ByteArray), .bool false, .string (⟨#[]⟩ : ByteArray), .string (⟨#[]⟩ : ByteArray), .string (⟨#[]⟩ : ByteArray), .string (⟨#[]⟩ : ByteArray), .bool false]) ?_ 2 _ rfl; (with_reducible repeat (first | refine blk_drewN ?_ _ | refine blk_drew ?_ | refine blk_alloc ?_ _)); refine blk_put (cs := #[.string ((rd_T109 l0 x5_1).f0), .string (⟨#[]⟩ : ByteArray), .string (⟨#[]⟩ : ByteArray), .bool false, .string (⟨#[]⟩ : ByteArray), .string (⟨#[]⟩ : ByteArray), .string (⟨#[]⟩ : ByteArray), .string (⟨#[]⟩ : ByteArray), .bool false]) ?_ 1 _ rfl; (with_reducible repeat (first | refine blk_drewN ?_ _ | refine blk_drew ?_ | refine blk_alloc ?_ _)); refine blk_put (cs := #[.string (⟨#[]⟩ : ByteArray), .string (⟨#[]⟩ : ByteArray), .string (⟨#[]⟩ : ByteArray), .bool false, .string (⟨#[]⟩ : ByteArray), .string (⟨#[]⟩ : ByteArray), .string (⟨#[]⟩ : ByteArray), .string (⟨#[]⟩ : ByteArray), .bool false]) ?_ 0 _ rfl; (with_reducible repeat (first | refine blk_drewN ?_ _ | refine blk_drew ?_ | refine blk_alloc ?_ _)); exact BK394.out) hb); have n1_ := Aside0.mk (below_step (by repeat (first | (with_reducible first | exact HB.out | apply below_alloc | apply pw_below_drewN | apply below_drew1 | refine below_set ?_ GE394.out) | exact HB.out)) hb); clear BK394; clear HB; have BK394 := n0_; have HB := n1_; clear n0_ n1_; (try clear hb); (try clear hb2); (try clear hk); (try clear hi); have hcz16_0 : w15.cell? ⟨gb394, 0, none⟩ = some (.string ((rd_T109 l0 x5_1).f0)) := (blk_cell BK394.out 0).trans rfl; have hcz16_1 : w15.cell? ⟨gb394, 1, none⟩ = some (.string ((rd_T109 l0 x5_1).f1)) := (blk_cell BK394.out 1).trans rfl; have hcz16_2 : w15.cell? ⟨gb394, 2, none⟩ = some (.string ((rd_T109 l0 x5_1).f2)) := (blk_cell BK394.out 2).trans rfl; have hcz16_3 : w15.cell? ⟨gb394, 3, none⟩ = some (.bool ((rd_T109 l0 x5_1).f3)) := (blk_cell BK394.out 3).trans rfl; have hcz16_4 : w15.cell? ⟨gb394, 4, none⟩ = some (.string ((rd_T109 l0 x5_1).f4)) := (blk_cell BK394.out 4).trans rfl; have hcz16_5 : w15.cell? ⟨gb394, 5, none⟩ = some (.string ((rd_T109 l0 x5_1).f5)) := (blk_cell BK394.out 5).trans rfl; have hcz16_6 : w15.cell? ⟨gb394, 6, none⟩ = some (.string ((rd_T109 l0 x5_1).f6)) := (blk_cell BK394.out 6).trans rfl; have hcz16_7 : w15.cell? ⟨gb394, 7, none⟩ = some (.string ((rd_T109 l0 x5_1).f7)) := (blk_cell BK394.out 7).trans rfl; have hcz16_8 : w15.cell? ⟨gb394, 8, none⟩ = some (.bool ((rd_T109 l0 x5_1).f8)) := (blk_cell BK394.out 8).trans rfl; have hfz16_0 := blk_frozen BK394.out 0; have hfz16_1 := blk_frozen BK394.out 1; have hfz16_2 := blk_frozen BK394.out 2; have hfz16_3 := blk_frozen BK394.out 3; have hfz16_4 := blk_frozen BK394.out 4; have hfz16_5 := blk_frozen BK394.out 5; have hfz16_6 := blk_frozen BK394.out 6; have hfz16_7 := blk_frozen BK394.out 7; have hfz16_8 := blk_frozen BK394.out 8) | (go_at_call 21; (with_reducible refine (tripartiteref07_Run.calls k1 ((rd_T109 l0 x5_1).f5) t396 _ A11.out).mono ?_); rintro e w17 ⟨rfl, hb⟩; have n0_ := Aside0.mk (blk_below (g := gb394) (o := .cells #[.string ((rd_T109 l0 x5_1).f0), .string ((rd_T109 l0 x5_1).f1), .string ((rd_T109 l0 x5_1).f2), .bool ((rd_T109 l0 x5_1).f3), .string ((rd_T109 l0 x5_1).f4), .string ((rd_T109 l0 x5_1).f5), .string ((rd_T109 l0 x5_1).f6), .string ((rd_T109 l0 x5_1).f7), .bool ((rd_T109 l0 x5_1).f8)] 109 (0, 0)) (by (with_reducible repeat (first | refine blk_drewN ?_ _ | refine blk_drew ?_ | refine blk_alloc ?_ _)); exact BK394.out) hb); have n1_ := Aside0.mk (below_step (by repeat (first | (with_reducible first | exact HB.out | apply below_alloc | apply pw_below_drewN | apply below_drew1 | refine below_set ?_ GE394.out) | exact HB.out)) hb); clear BK394; clear HB; have BK394 := n0_; have HB := n1_; clear n0_ n1_; (try clear hb); (try clear hb2); (try clear hk); (try clear hi)))
                go_ret
                exact ⟨by first | rfl | (simp [errW_none, errW_some] <;> rfl) | (simp [*, errW_none, errW_some] <;> rfl), by repeat (first | (with_reducible first | exact HB.out | apply below_alloc | apply pw_below_drewN | apply below_drew1 | refine below_set ?_ GE394.out) | exact HB.out)⟩
              · rw [if_neg c12] at H
                have c12b0 : decide (a1 ≤ t396) = false := decide_eq_false c12
                clear c12
                replace H := Option.bind_eq_some_iff.mp H
                obtain ⟨t397, A180, H⟩ := H
                replace H : (if t397 ≥ a1 then (some false) else ((tripartiteref07_Run.f k1 ((rd_T109 l0 x5_1).f7)).bind fun t398 => (if t398 ≥ a1 then (some false) else (tripartiteref07_Fits.l0 k1 l0 a1 (wrap64 (x5_1 + 1)))))) = some r := H
                have A18 := Aside0.mk A180
                clear A180
                by_cases c19 : t397 ≥ a1
                · rw [if_pos c19] at H
                  have c19b0 : decide (a1 ≤ t397) = true := decide_eq_true c19
                  clear c19
                  obtain rfl := Option.some.inj H
                  have p393 : 0 ≤ (x5_1 : Int) := of_decide_eq_true (by first | (with_reducible assumption) | assumption)
                  have q393 : x5_1 < (l0.length : Int) := of_decide_eq_true (by first | (with_reducible assumption) | assumption)
                  obtain ⟨ad393, e393, hx393_0, hx393_1, hx393_2, hx393_3, hx393_4, hx393_5, hx393_6, hx393_7, hx393_8⟩ := at_T109 HR0.out x5_1 p393 q393
                  cases e393
                  replace hx393_0 := (HB.out.cell (World.block_lt_of_cell? w _ hx393_0)).trans hx393_0
                  replace hx393_1 := (HB.out.cell (World.block_lt_of_cell? w _ hx393_1)).trans hx393_1
                  replace hx393_2 := (HB.out.cell (World.block_lt_of_cell? w _ hx393_2)).trans hx393_2
                  replace hx393_3 := (HB.out.cell (World.block_lt_of_cell? w _ hx393_3)).trans hx393_3
                  replace hx393_4 := (HB.out.cell (World.block_lt_of_cell? w _ hx393_4)).trans hx393_4
                  replace hx393_5 := (HB.out.cell (World.block_lt_of_cell? w _ hx393_5)).trans hx393_5
                  replace hx393_6 := (HB.out.cell (World.block_lt_of_cell? w _ hx393_6)).trans hx393_6
                  replace hx393_7 := (HB.out.cell (World.block_lt_of_cell? w _ hx393_7)).trans hx393_7
                  replace hx393_8 := (HB.out.cell (World.block_lt_of_cell? w _ hx393_8)).trans hx393_8
                  replace p393 := eq_true p393
                  replace q393 := eq_true q393
                  go_wp2_with (first | ((with_reducible refine gate_dst (N := 6) rfl ?_); refine box_event ?hg (N := 6) ?hd (cs := #[.string (⟨#[]⟩ : ByteArray), .string (⟨#[]⟩ : ByteArray), .string (⟨#[]⟩ : ByteArray), .bool false, .string (⟨#[]⟩ : ByteArray), .string (⟨#[]⟩ : ByteArray), .string (⟨#[]⟩ : ByteArray), .string (⟨#[]⟩ : ByteArray), .bool false]) (t := 109) ?hr ?_; (case hd => rfl); (case hg => rfl); (case hr => first | (go_simp; done) | (go_simp; rfl)); intro gb394 hg w20 hbox hb; have n0_ := Aside0.mk (below_step (by repeat (first | (with_reducible first | exact HB.out | apply below_alloc | apply pw_below_drewN | apply below_drew1) | exact HB.out)) hb); have n1_ := Aside0.mk (hbox); have n2_ := Aside0.mk ((by rw [hg]; exact (below_size (by repeat (first | (with_reducible first | exact HB.out | apply below_alloc | apply pw_below_drewN | apply below_drew1) | exact HB.out))) : w.heap.size ≤ gb394)); have n3_ := Aside0.mk ((by rw [hg]; exact (below_size (by repeat (first | (with_reducible first | exact HB.out | apply below_alloc | apply pw_below_drewN | apply below_drew1) | exact HB.out))) : w.heap.size ≤ gb394)); clear HB; have HB := n0_; have BK394 := n1_; have GW394 := n2_; have GE394 := n3_; clear n0_ n1_ n2_ n3_; clear hb hbox hg; have hcz21_0 : w20.cell? ⟨gb394, 0, none⟩ = some (.string (⟨#[]⟩ : ByteArray)) := (blk_cell BK394.out 0).trans rfl; have hcz21_1 : w20.cell? ⟨gb394, 1, none⟩ = some (.string (⟨#[]⟩ : ByteArray)) := (blk_cell BK394.out 1).trans rfl; have hcz21_2 : w20.cell? ⟨gb394, 2, none⟩ = some (.string (⟨#[]⟩ : ByteArray)) := (blk_cell BK394.out 2).trans rfl; have hcz21_3 : w20.cell? ⟨gb394, 3, none⟩ = some (.bool false) := (blk_cell BK394.out 3).trans rfl; have hcz21_4 : w20.cell? ⟨gb394, 4, none⟩ = some (.string (⟨#[]⟩ : ByteArray)) := (blk_cell BK394.out 4).trans rfl; have hcz21_5 : w20.cell? ⟨gb394, 5, none⟩ = some (.string (⟨#[]⟩ : ByteArray)) := (blk_cell BK394.out 5).trans rfl; have hcz21_6 : w20.cell? ⟨gb394, 6, none⟩ = some (.string (⟨#[]⟩ : ByteArray)) := (blk_cell BK394.out 6).trans rfl; have hcz21_7 : w20.cell? ⟨gb394, 7, none⟩ = some (.string (⟨#[]⟩ : ByteArray)) := (blk_cell BK394.out 7).trans rfl; have hcz21_8 : w20.cell? ⟨gb394, 8, none⟩ = some (.bool false) := (blk_cell BK394.out 8).trans rfl; have hfz21_0 := blk_frozen BK394.out 0; have hfz21_1 := blk_frozen BK394.out 1; have hfz21_2 := blk_frozen BK394.out 2; have hfz21_3 := blk_frozen BK394.out 3; have hfz21_4 := blk_frozen BK394.out 4; have hfz21_5 := blk_frozen BK394.out 5; have hfz21_6 := blk_frozen BK394.out 6; have hfz21_7 := blk_frozen BK394.out 7; have hfz21_8 := blk_frozen BK394.out 8) | ((with_reducible refine gate_callee (f := 21) rfl ?_); refine goesL_ (some 21) rfl rfl Try.func21 (by kernel_rfl) rfl #[.string ((rd_T109 l0 x5_1).f4)] rfl (by (try simp only [List.map_toArray, List.map_cons, List.map_nil]); first | done | rfl | (simp only [List.length_drop, List.length_take]; rfl)) ?_; (with_reducible refine (tripartiteref07_Run.calls k1 ((rd_T109 l0 x5_1).f4) t395 _ A6.out).mono ?_); rintro e w22 ⟨rfl, hb⟩; refine ⟨_, rfl, ?_⟩; have n0_ := Aside0.mk (blk_below (g := gb394) (o := .cells #[.string ((rd_T109 l0 x5_1).f0), .string ((rd_T109 l0 x5_1).f1), .string ((rd_T109 l0 x5_1).f2), .bool ((rd_T109 l0 x5_1).f3), .string ((rd_T109 l0 x5_1).f4), .string ((rd_T109 l0 x5_1).f5), .string ((rd_T109 l0 x5_1).f6), .string ((rd_T109 l0 x5_1).f7), .bool ((rd_T109 l0 x5_1).f8)] 109 (0, 0)) (by (with_reducible repeat (first | refine blk_drewN ?_ _ | refine blk_drew ?_ | refine blk_alloc ?_ _)); refine blk_put (cs := #[.string ((rd_T109 l0 x5_1).f0), .string ((rd_T109 l0 x5_1).f1), .string ((rd_T109 l0 x5_1).f2), .bool ((rd_T109 l0 x5_1).f3), .string ((rd_T109 l0 x5_1).f4), .string ((rd_T109 l0 x5_1).f5), .string ((rd_T109 l0 x5_1).f6), .string ((rd_T109 l0 x5_1).f7), .bool false]) ?_ 8 _ rfl; (with_reducible repeat (first | refine blk_drewN ?_ _ | refine blk_drew ?_ | refine blk_alloc ?_ _)); refine blk_put (cs := #[.string ((rd_T109 l0 x5_1).f0), .string ((rd_T109 l0 x5_1).f1), .string ((rd_T109 l0 x5_1).f2), .bool ((rd_T109 l0 x5_1).f3), .string ((rd_T109 l0 x5_1).f4), .string ((rd_T109 l0 x5_1).f5), .string ((rd_T109 l0 x5_1).f6), .string (⟨#[]⟩ : ByteArray), .bool false]) ?_ 7 _ rfl; (with_reducible repeat (first | refine blk_drewN ?_ _ | refine blk_drew ?_ | refine blk_alloc ?_ _)); refine blk_put (cs := #[.string ((rd_T109 l0 x5_1).f0), .string ((rd_T109 l0 x5_1).f1), .string ((rd_T109 l0 x5_1).f2), .bool ((rd_T109 l0 x5_1).f3), .string ((rd_T109 l0 x5_1).f4), .string ((rd_T109 l0 x5_1).f5), .string (⟨#[]⟩ : ByteArray), .string (⟨#[]⟩ : ByteArray), .bool false]) ?_ 6 _ rfl; (with_reducible repeat (first | refine blk_drewN ?_ _ | refine blk_drew ?_ | refine blk_alloc ?_ _)); refine blk_put (cs := #[.string ((rd_T109 l0 x5_1).f0), .string ((rd_T109 l0 x5_1).f1), .string ((rd_T109 l0 x5_1).f2), .bool ((rd_T109 l0 x5_1).f3), .string ((rd_T109 l0 x5_1).f4), .string (⟨#[]⟩ : ByteArray), .string (⟨#[]⟩ : ByteArray), .string (⟨#[]⟩ : ByteArray), .bool false]) ?_ 5 _ rfl; (with_reducible repeat (first | refine blk_drewN ?_ _ | refine blk_drew ?_ | refine blk_alloc ?_ _)); refine blk_put (cs := #[.string ((rd_T109 l0 x5_1).f0), .string ((rd_T109 l0 x5_1).f1), .string ((rd_T109 l0 x5_1).f2), .bool ((rd_T109 l0 x5_1).f3), .string (⟨#[]⟩ : ByteArray), .string (⟨#[]⟩ : ByteArray), .string (⟨#[]⟩ : ByteArray), .string (⟨#[]⟩ : ByteArray), .bool false]) ?_ 4 _ rfl; (with_reducible repeat (first | refine blk_drewN ?_ _ | refine blk_drew ?_ | refine blk_alloc ?_ _)); refine blk_put (cs := #[.string ((rd_T109 l0 x5_1).f0), .string ((rd_T109 l0 x5_1).f1), .string ((rd_T109 l0 x5_1).f2), .bool false, .string (⟨#[]⟩ : ByteArray), .string (⟨#[]⟩ : ByteArray), .string (⟨#[]⟩ : ByteArray), .string (⟨#[]⟩ : ByteArray), .bool false]) ?_ 3 _ rfl; (with_reducible repeat (first | refine blk_drewN ?_ _ | refine blk_drew ?_ | refine blk_alloc ?_ _)); refine blk_put (cs := #[.string ((rd_T109 l0 x5_1).f0), .string ((rd_T109 l0 x5_1).f1), .string (⟨#[]⟩ : ByteArray), .bool false, .string (⟨#[]⟩ : ByteArray), .string (⟨#[]⟩ : ByteArray), .string (⟨#[]⟩ : ByteArray), .string (⟨#[]⟩ : ByteArray), .bool false]) ?_ 2 _ rfl; (with_reducible repeat (first | refine blk_drewN ?_ _ | refine blk_drew ?_ | refine blk_alloc ?_ _)); refine blk_put (cs := #[.string ((rd_T109 l0 x5_1).f0), .string (⟨#[]⟩ : ByteArray), .string (⟨#[]⟩ : ByteArray), .bool false, .string (⟨#[]⟩ : ByteArray), .string (⟨#[]⟩ : ByteArray), .string (⟨#[]⟩ : ByteArray), .string (⟨#[]⟩ : ByteArray), .bool false]) ?_ 1 _ rfl; (with_reducible repeat (first | refine blk_drewN ?_ _ | refine blk_drew ?_ | refine blk_alloc ?_ _)); refine blk_put (cs := #[.string (⟨#[]⟩ : ByteArray), .string (⟨#[]⟩ : ByteArray), .string (⟨#[]⟩ : ByteArray), .bool false, .string (⟨#[]⟩ : ByteArray), .string (⟨#[]⟩ : ByteArray), .string (⟨#[]⟩ : ByteArray), .string (⟨#[]⟩ : ByteArray), .bool false]) ?_ 0 _ rfl; (with_reducible repeat (first | refine blk_drewN ?_ _ | refine blk_drew ?_ | refine blk_alloc ?_ _)); exact BK394.out) hb); have n1_ := Aside0.mk (below_step (by repeat (first | (with_reducible first | exact HB.out | apply below_alloc | apply pw_below_drewN | apply below_drew1 | refine below_set ?_ GE394.out) | exact HB.out)) hb); clear BK394; clear HB; have BK394 := n0_; have HB := n1_; clear n0_ n1_; (try clear hb); (try clear hb2); (try clear hk); (try clear hi); have hcz23_0 : w22.cell? ⟨gb394, 0, none⟩ = some (.string ((rd_T109 l0 x5_1).f0)) := (blk_cell BK394.out 0).trans rfl; have hcz23_1 : w22.cell? ⟨gb394, 1, none⟩ = some (.string ((rd_T109 l0 x5_1).f1)) := (blk_cell BK394.out 1).trans rfl; have hcz23_2 : w22.cell? ⟨gb394, 2, none⟩ = some (.string ((rd_T109 l0 x5_1).f2)) := (blk_cell BK394.out 2).trans rfl; have hcz23_3 : w22.cell? ⟨gb394, 3, none⟩ = some (.bool ((rd_T109 l0 x5_1).f3)) := (blk_cell BK394.out 3).trans rfl; have hcz23_4 : w22.cell? ⟨gb394, 4, none⟩ = some (.string ((rd_T109 l0 x5_1).f4)) := (blk_cell BK394.out 4).trans rfl; have hcz23_5 : w22.cell? ⟨gb394, 5, none⟩ = some (.string ((rd_T109 l0 x5_1).f5)) := (blk_cell BK394.out 5).trans rfl; have hcz23_6 : w22.cell? ⟨gb394, 6, none⟩ = some (.string ((rd_T109 l0 x5_1).f6)) := (blk_cell BK394.out 6).trans rfl; have hcz23_7 : w22.cell? ⟨gb394, 7, none⟩ = some (.string ((rd_T109 l0 x5_1).f7)) := (blk_cell BK394.out 7).trans rfl; have hcz23_8 : w22.cell? ⟨gb394, 8, none⟩ = some (.bool ((rd_T109 l0 x5_1).f8)) := (blk_cell BK394.out 8).trans rfl; have hfz23_0 := blk_frozen BK394.out 0; have hfz23_1 := blk_frozen BK394.out 1; have hfz23_2 := blk_frozen BK394.out 2; have hfz23_3 := blk_frozen BK394.out 3; have hfz23_4 := blk_frozen BK394.out 4; have hfz23_5 := blk_frozen BK394.out 5; have hfz23_6 := blk_frozen BK394.out 6; have hfz23_7 := blk_frozen BK394.out 7; have hfz23_8 := blk_frozen BK394.out 8) | (go_at_call 21; (with_reducible refine (tripartiteref07_Run.calls k1 ((rd_T109 l0 x5_1).f5) t396 _ A11.out).mono ?_); rintro e w24 ⟨rfl, hb⟩; have n0_ := Aside0.mk (blk_below (g := gb394) (o := .cells #[.string ((rd_T109 l0 x5_1).f0), .string ((rd_T109 l0 x5_1).f1), .string ((rd_T109 l0 x5_1).f2), .bool ((rd_T109 l0 x5_1).f3), .string ((rd_T109 l0 x5_1).f4), .string ((rd_T109 l0 x5_1).f5), .string ((rd_T109 l0 x5_1).f6), .string ((rd_T109 l0 x5_1).f7), .bool ((rd_T109 l0 x5_1).f8)] 109 (0, 0)) (by (with_reducible repeat (first | refine blk_drewN ?_ _ | refine blk_drew ?_ | refine blk_alloc ?_ _)); exact BK394.out) hb); have n1_ := Aside0.mk (below_step (by repeat (first | (with_reducible first | exact HB.out | apply below_alloc | apply pw_below_drewN | apply below_drew1 | refine below_set ?_ GE394.out) | exact HB.out)) hb); clear BK394; clear HB; have BK394 := n0_; have HB := n1_; clear n0_ n1_; (try clear hb); (try clear hb2); (try clear hk); (try clear hi); have hcz25_0 : w24.cell? ⟨gb394, 0, none⟩ = some (.string ((rd_T109 l0 x5_1).f0)) := (blk_cell BK394.out 0).trans rfl; have hcz25_1 : w24.cell? ⟨gb394, 1, none⟩ = some (.string ((rd_T109 l0 x5_1).f1)) := (blk_cell BK394.out 1).trans rfl; have hcz25_2 : w24.cell? ⟨gb394, 2, none⟩ = some (.string ((rd_T109 l0 x5_1).f2)) := (blk_cell BK394.out 2).trans rfl; have hcz25_3 : w24.cell? ⟨gb394, 3, none⟩ = some (.bool ((rd_T109 l0 x5_1).f3)) := (blk_cell BK394.out 3).trans rfl; have hcz25_4 : w24.cell? ⟨gb394, 4, none⟩ = some (.string ((rd_T109 l0 x5_1).f4)) := (blk_cell BK394.out 4).trans rfl; have hcz25_5 : w24.cell? ⟨gb394, 5, none⟩ = some (.string ((rd_T109 l0 x5_1).f5)) := (blk_cell BK394.out 5).trans rfl; have hcz25_6 : w24.cell? ⟨gb394, 6, none⟩ = some (.string ((rd_T109 l0 x5_1).f6)) := (blk_cell BK394.out 6).trans rfl; have hcz25_7 : w24.cell? ⟨gb394, 7, none⟩ = some (.string ((rd_T109 l0 x5_1).f7)) := (blk_cell BK394.out 7).trans rfl; have hcz25_8 : w24.cell? ⟨gb394, 8, none⟩ = some (.bool ((rd_T109 l0 x5_1).f8)) := (blk_cell BK394.out 8).trans rfl; have hfz25_0 := blk_frozen BK394.out 0; have hfz25_1 := blk_frozen BK394.out 1; have hfz25_2 := blk_frozen BK394.out 2; have hfz25_3 := blk_frozen BK394.out 3; have hfz25_4 := blk_frozen BK394.out 4; have hfz25_5 := blk_frozen BK394.out 5; have hfz25_6 := blk_frozen BK394.out 6; have hfz25_7 := blk_frozen BK394.out 7; have hfz25_8 := blk_frozen BK394.out 8) | (go_at_call 21; (with_reducible refine (tripartiteref07_Run.calls k1 ((rd_T109 l0 x5_1).f6) t397 _ A18.out).mono ?_); rintro e w26 ⟨rfl, hb⟩; have n0_ := Aside0.mk (blk_below (g := gb394) (o := .cells #[.string ((rd_T109 l0 x5_1).f0), .string ((rd_T109 l0 x5_1).f1), .string ((rd_T109 l0 x5_1).f2), .bool ((rd_T109 l0 x5_1).f3), .string ((rd_T109 l0 x5_1).f4), .string ((rd_T109 l0 x5_1).f5), .string ((rd_T109 l0 x5_1).f6), .string ((rd_T109 l0 x5_1).f7), .bool ((rd_T109 l0 x5_1).f8)] 109 (0, 0)) (by (with_reducible repeat (first | refine blk_drewN ?_ _ | refine blk_drew ?_ | refine blk_alloc ?_ _)); exact BK394.out) hb); have n1_ := Aside0.mk (below_step (by repeat (first | (with_reducible first | exact HB.out | apply below_alloc | apply pw_below_drewN | apply below_drew1 | refine below_set ?_ GE394.out) | exact HB.out)) hb); clear BK394; clear HB; have BK394 := n0_; have HB := n1_; clear n0_ n1_; (try clear hb); (try clear hb2); (try clear hk); (try clear hi)))
                  go_ret
                  exact ⟨by first | rfl | (simp [errW_none, errW_some] <;> rfl) | (simp [*, errW_none, errW_some] <;> rfl), by repeat (first | (with_reducible first | exact HB.out | apply below_alloc | apply pw_below_drewN | apply below_drew1 | refine below_set ?_ GE394.out) | exact HB.out)⟩
                · rw [if_neg c19] at H
                  have c19b0 : decide (a1 ≤ t397) = false := decide_eq_false c19
                  clear c19
                  replace H := Option.bind_eq_some_iff.mp H
                  obtain ⟨t398, A270, H⟩ := H
                  replace H : (if t398 ≥ a1 then (some false) else (tripartiteref07_Fits.l0 k1 l0 a1 (wrap64 (x5_1 + 1)))) = some r := H
                  have A27 := Aside0.mk A270
                  clear A270
                  by_cases c28 : t398 ≥ a1
                  · rw [if_pos c28] at H
                    have c28b0 : decide (a1 ≤ t398) = true := decide_eq_true c28
                    clear c28
                    obtain rfl := Option.some.inj H
                    have p393 : 0 ≤ (x5_1 : Int) := of_decide_eq_true (by first | (with_reducible assumption) | assumption)
                    have q393 : x5_1 < (l0.length : Int) := of_decide_eq_true (by first | (with_reducible assumption) | assumption)
                    obtain ⟨ad393, e393, hx393_0, hx393_1, hx393_2, hx393_3, hx393_4, hx393_5, hx393_6, hx393_7, hx393_8⟩ := at_T109 HR0.out x5_1 p393 q393
                    cases e393
                    replace hx393_0 := (HB.out.cell (World.block_lt_of_cell? w _ hx393_0)).trans hx393_0
                    replace hx393_1 := (HB.out.cell (World.block_lt_of_cell? w _ hx393_1)).trans hx393_1
                    replace hx393_2 := (HB.out.cell (World.block_lt_of_cell? w _ hx393_2)).trans hx393_2
                    replace hx393_3 := (HB.out.cell (World.block_lt_of_cell? w _ hx393_3)).trans hx393_3
                    replace hx393_4 := (HB.out.cell (World.block_lt_of_cell? w _ hx393_4)).trans hx393_4
                    replace hx393_5 := (HB.out.cell (World.block_lt_of_cell? w _ hx393_5)).trans hx393_5
                    replace hx393_6 := (HB.out.cell (World.block_lt_of_cell? w _ hx393_6)).trans hx393_6
                    replace hx393_7 := (HB.out.cell (World.block_lt_of_cell? w _ hx393_7)).trans hx393_7
                    replace hx393_8 := (HB.out.cell (World.block_lt_of_cell? w _ hx393_8)).trans hx393_8
                    replace p393 := eq_true p393
                    replace q393 := eq_true q393
                    go_wp2_with (first | ((with_reducible refine gate_dst (N := 6) rfl ?_); refine box_event ?hg (N := 6) ?hd (cs := #[.string (⟨#[]⟩ : ByteArray), .string (⟨#[]⟩ : ByteArray), .string (⟨#[]⟩ : ByteArray), .bool false, .string (⟨#[]⟩ : ByteArray), .string (⟨#[]⟩ : ByteArray), .string (⟨#[]⟩ : ByteArray), .string (⟨#[]⟩ : ByteArray), .bool false]) (t := 109) ?hr ?_; (case hd => rfl); (case hg => rfl); (case hr => first | (go_simp; done) | (go_simp; rfl)); intro gb394 hg w29 hbox hb; have n0_ := Aside0.mk (below_step (by repeat (first | (with_reducible first | exact HB.out | apply below_alloc | apply pw_below_drewN | apply below_drew1) | exact HB.out)) hb); have n1_ := Aside0.mk (hbox); have n2_ := Aside0.mk ((by rw [hg]; exact (below_size (by repeat (first | (with_reducible first | exact HB.out | apply below_alloc | apply pw_below_drewN | apply below_drew1) | exact HB.out))) : w.heap.size ≤ gb394)); have n3_ := Aside0.mk ((by rw [hg]; exact (below_size (by repeat (first | (with_reducible first | exact HB.out | apply below_alloc | apply pw_below_drewN | apply below_drew1) | exact HB.out))) : w.heap.size ≤ gb394)); clear HB; have HB := n0_; have BK394 := n1_; have GW394 := n2_; have GE394 := n3_; clear n0_ n1_ n2_ n3_; clear hb hbox hg; have hcz30_0 : w29.cell? ⟨gb394, 0, none⟩ = some (.string (⟨#[]⟩ : ByteArray)) := (blk_cell BK394.out 0).trans rfl; have hcz30_1 : w29.cell? ⟨gb394, 1, none⟩ = some (.string (⟨#[]⟩ : ByteArray)) := (blk_cell BK394.out 1).trans rfl; have hcz30_2 : w29.cell? ⟨gb394, 2, none⟩ = some (.string (⟨#[]⟩ : ByteArray)) := (blk_cell BK394.out 2).trans rfl; have hcz30_3 : w29.cell? ⟨gb394, 3, none⟩ = some (.bool false) := (blk_cell BK394.out 3).trans rfl; have hcz30_4 : w29.cell? ⟨gb394, 4, none⟩ = some (.string (⟨#[]⟩ : ByteArray)) := (blk_cell BK394.out 4).trans rfl; have hcz30_5 : w29.cell? ⟨gb394, 5, none⟩ = some (.string (⟨#[]⟩ : ByteArray)) := (blk_cell BK394.out 5).trans rfl; have hcz30_6 : w29.cell? ⟨gb394, 6, none⟩ = some (.string (⟨#[]⟩ : ByteArray)) := (blk_cell BK394.out 6).trans rfl; have hcz30_7 : w29.cell? ⟨gb394, 7, none⟩ = some (.string (⟨#[]⟩ : ByteArray)) := (blk_cell BK394.out 7).trans rfl; have hcz30_8 : w29.cell? ⟨gb394, 8, none⟩ = some (.bool false) := (blk_cell BK394.out 8).trans rfl; have hfz30_0 := blk_frozen BK394.out 0; have hfz30_1 := blk_frozen BK394.out 1; have hfz30_2 := blk_frozen BK394.out 2; have hfz30_3 := blk_frozen BK394.out 3; have hfz30_4 := blk_frozen BK394.out 4; have hfz30_5 := blk_frozen BK394.out 5; have hfz30_6 := blk_frozen BK394.out 6; have hfz30_7 := blk_frozen BK394.out 7; have hfz30_8 := blk_frozen BK394.out 8) | ((with_reducible refine gate_callee (f := 21) rfl ?_); refine goesL_ (some 21) rfl rfl Try.func21 (by kernel_rfl) rfl #[.string ((rd_T109 l0 x5_1).f4)] rfl (by (try simp only [List.map_toArray, List.map_cons, List.map_nil]); first | done | rfl | (simp only [List.length_drop, List.length_take]; rfl)) ?_; (with_reducible refine (tripartiteref07_Run.calls k1 ((rd_T109 l0 x5_1).f4) t395 _ A6.out).mono ?_); rintro e w31 ⟨rfl, hb⟩; refine ⟨_, rfl, ?_⟩; have n0_ := Aside0.mk (blk_below (g := gb394) (o := .cells #[.string ((rd_T109 l0 x5_1).f0), .string ((rd_T109 l0 x5_1).f1), .string ((rd_T109 l0 x5_1).f2), .bool ((rd_T109 l0 x5_1).f3), .string ((rd_T109 l0 x5_1).f4), .string ((rd_T109 l0 x5_1).f5), .string ((rd_T109 l0 x5_1).f6), .string ((rd_T109 l0 x5_1).f7), .bool ((rd_T109 l0 x5_1).f8)] 109 (0, 0)) (by (with_reducible repeat (first | refine blk_drewN ?_ _ | refine blk_drew ?_ | refine blk_alloc ?_ _)); refine blk_put (cs := #[.string ((rd_T109 l0 x5_1).f0), .string ((rd_T109 l0 x5_1).f1), .string ((rd_T109 l0 x5_1).f2), .bool ((rd_T109 l0 x5_1).f3), .string ((rd_T109 l0 x5_1).f4), .string ((rd_T109 l0 x5_1).f5), .string ((rd_T109 l0 x5_1).f6), .string ((rd_T109 l0 x5_1).f7), .bool false]) ?_ 8 _ rfl; (with_reducible repeat (first | refine blk_drewN ?_ _ | refine blk_drew ?_ | refine blk_alloc ?_ _)); refine blk_put (cs := #[.string ((rd_T109 l0 x5_1).f0), .string ((rd_T109 l0 x5_1).f1), .string ((rd_T109 l0 x5_1).f2), .bool ((rd_T109 l0 x5_1).f3), .string ((rd_T109 l0 x5_1).f4), .string ((rd_T109 l0 x5_1).f5), .string ((rd_T109 l0 x5_1).f6), .string (⟨#[]⟩ : ByteArray), .bool false]) ?_ 7 _ rfl; (with_reducible repeat (first | refine blk_drewN ?_ _ | refine blk_drew ?_ | refine blk_alloc ?_ _)); refine blk_put (cs := #[.string ((rd_T109 l0 x5_1).f0), .string ((rd_T109 l0 x5_1).f1), .string ((rd_T109 l0 x5_1).f2), .bool ((rd_T109 l0 x5_1).f3), .string ((rd_T109 l0 x5_1).f4), .string ((rd_T109 l0 x5_1).f5), .string (⟨#[]⟩ : ByteArray), .string (⟨#[]⟩ : ByteArray), .bool false]) ?_ 6 _ rfl; (with_reducible repeat (first | refine blk_drewN ?_ _ | refine blk_drew ?_ | refine blk_alloc ?_ _)); refine blk_put (cs := #[.string ((rd_T109 l0 x5_1).f0), .string ((rd_T109 l0 x5_1).f1), .string ((rd_T109 l0 x5_1).f2), .bool ((rd_T109 l0 x5_1).f3), .string ((rd_T109 l0 x5_1).f4), .string (⟨#[]⟩ : ByteArray), .string (⟨#[]⟩ : ByteArray), .string (⟨#[]⟩ : ByteArray), .bool false]) ?_ 5 _ rfl; (with_reducible repeat (first | refine blk_drewN ?_ _ | refine blk_drew ?_ | refine blk_alloc ?_ _)); refine blk_put (cs := #[.string ((rd_T109 l0 x5_1).f0), .string ((rd_T109 l0 x5_1).f1), .string ((rd_T109 l0 x5_1).f2), .bool ((rd_T109 l0 x5_1).f3), .string (⟨#[]⟩ : ByteArray), .string (⟨#[]⟩ : ByteArray), .string (⟨#[]⟩ : ByteArray), .string (⟨#[]⟩ : ByteArray), .bool false]) ?_ 4 _ rfl; (with_reducible repeat (first | refine blk_drewN ?_ _ | refine blk_drew ?_ | refine blk_alloc ?_ _)); refine blk_put (cs := #[.string ((rd_T109 l0 x5_1).f0), .string ((rd_T109 l0 x5_1).f1), .string ((rd_T109 l0 x5_1).f2), .bool false, .string (⟨#[]⟩ : ByteArray), .string (⟨#[]⟩ : ByteArray), .string (⟨#[]⟩ : ByteArray), .string (⟨#[]⟩ : ByteArray), .bool false]) ?_ 3 _ rfl; (with_reducible repeat (first | refine blk_drewN ?_ _ | refine blk_drew ?_ | refine blk_alloc ?_ _)); refine blk_put (cs := #[.string ((rd_T109 l0 x5_1).f0), .string ((rd_T109 l0 x5_1).f1), .string (⟨#[]⟩ : ByteArray), .bool false, .string (⟨#[]⟩ : ByteArray), .string (⟨#[]⟩ : ByteArray), .string (⟨#[]⟩ : ByteArray), .string (⟨#[]⟩ : ByteArray), .bool false]) ?_ 2 _ rfl; (with_reducible repeat (first | refine blk_drewN ?_ _ | refine blk_drew ?_ | refine blk_alloc ?_ _)); refine blk_put (cs := #[.string ((rd_T109 l0 x5_1).f0), .string (⟨#[]⟩ : ByteArray), .string (⟨#[]⟩ : ByteArray), .bool false, .string (⟨#[]⟩ : ByteArray), .string (⟨#[]⟩ : ByteArray), .string (⟨#[]⟩ : ByteArray), .string (⟨#[]⟩ : ByteArray), .bool false]) ?_ 1 _ rfl; (with_reducible repeat (first | refine blk_drewN ?_ _ | refine blk_drew ?_ | refine blk_alloc ?_ _)); refine blk_put (cs := #[.string (⟨#[]⟩ : ByteArray), .string (⟨#[]⟩ : ByteArray), .string (⟨#[]⟩ : ByteArray), .bool false, .string (⟨#[]⟩ : ByteArray), .string (⟨#[]⟩ : ByteArray), .string (⟨#[]⟩ : ByteArray), .string (⟨#[]⟩ : ByteArray), .bool false]) ?_ 0 _ rfl; (with_reducible repeat (first | refine blk_drewN ?_ _ | refine blk_drew ?_ | refine blk_alloc ?_ _)); exact BK394.out) hb); have n1_ := Aside0.mk (below_step (by repeat (first | (with_reducible first | exact HB.out | apply below_alloc | apply pw_below_drewN | apply below_drew1 | refine below_set ?_ GE394.out) | exact HB.out)) hb); clear BK394; clear HB; have BK394 := n0_; have HB := n1_; clear n0_ n1_; (try clear hb); (try clear hb2); (try clear hk); (try clear hi); have hcz32_0 : w31.cell? ⟨gb394, 0, none⟩ = some (.string ((rd_T109 l0 x5_1).f0)) := (blk_cell BK394.out 0).trans rfl; have hcz32_1 : w31.cell? ⟨gb394, 1, none⟩ = some (.string ((rd_T109 l0 x5_1).f1)) := (blk_cell BK394.out 1).trans rfl; have hcz32_2 : w31.cell? ⟨gb394, 2, none⟩ = some (.string ((rd_T109 l0 x5_1).f2)) := (blk_cell BK394.out 2).trans rfl; have hcz32_3 : w31.cell? ⟨gb394, 3, none⟩ = some (.bool ((rd_T109 l0 x5_1).f3)) := (blk_cell BK394.out 3).trans rfl; have hcz32_4 : w31.cell? ⟨gb394, 4, none⟩ = some (.string ((rd_T109 l0 x5_1).f4)) := (blk_cell BK394.out 4).trans rfl; have hcz32_5 : w31.cell? ⟨gb394, 5, none⟩ = some (.string ((rd_T109 l0 x5_1).f5)) := (blk_cell BK394.out 5).trans rfl; have hcz32_6 : w31.cell? ⟨gb394, 6, none⟩ = some (.string ((rd_T109 l0 x5_1).f6)) := (blk_cell BK394.out 6).trans rfl; have hcz32_7 : w31.cell? ⟨gb394, 7, none⟩ = some (.string ((rd_T109 l0 x5_1).f7)) := (blk_cell BK394.out 7).trans rfl; have hcz32_8 : w31.cell? ⟨gb394, 8, none⟩ = some (.bool ((rd_T109 l0 x5_1).f8)) := (blk_cell BK394.out 8).trans rfl; have hfz32_0 := blk_frozen BK394.out 0; have hfz32_1 := blk_frozen BK394.out 1; have hfz32_2 := blk_frozen BK394.out 2; have hfz32_3 := blk_frozen BK394.out 3; have hfz32_4 := blk_frozen BK394.out 4; have hfz32_5 := blk_frozen BK394.out 5; have hfz32_6 := blk_frozen BK394.out 6; have hfz32_7 := blk_frozen BK394.out 7; have hfz32_8 := blk_frozen BK394.out 8) | (go_at_call 21; (with_reducible refine (tripartiteref07_Run.calls k1 ((rd_T109 l0 x5_1).f5) t396 _ A11.out).mono ?_); rintro e w33 ⟨rfl, hb⟩; have n0_ := Aside0.mk (blk_below (g := gb394) (o := .cells #[.string ((rd_T109 l0 x5_1).f0), .string ((rd_T109 l0 x5_1).f1), .string ((rd_T109 l0 x5_1).f2), .bool ((rd_T109 l0 x5_1).f3), .string ((rd_T109 l0 x5_1).f4), .string ((rd_T109 l0 x5_1).f5), .string ((rd_T109 l0 x5_1).f6), .string ((rd_T109 l0 x5_1).f7), .bool ((rd_T109 l0 x5_1).f8)] 109 (0, 0)) (by (with_reducible repeat (first | refine blk_drewN ?_ _ | refine blk_drew ?_ | refine blk_alloc ?_ _)); exact BK394.out) hb); have n1_ := Aside0.mk (below_step (by repeat (first | (with_reducible first | exact HB.out | apply below_alloc | apply pw_below_drewN | apply below_drew1 | refine below_set ?_ GE394.out) | exact HB.out)) hb); clear BK394; clear HB; have BK394 := n0_; have HB := n1_; clear n0_ n1_; (try clear hb); (try clear hb2); (try clear hk); (try clear hi); have hcz34_0 : w33.cell? ⟨gb394, 0, none⟩ = some (.string ((rd_T109 l0 x5_1).f0)) := (blk_cell BK394.out 0).trans rfl; have hcz34_1 : w33.cell? ⟨gb394, 1, none⟩ = some (.string ((rd_T109 l0 x5_1).f1)) := (blk_cell BK394.out 1).trans rfl; have hcz34_2 : w33.cell? ⟨gb394, 2, none⟩ = some (.string ((rd_T109 l0 x5_1).f2)) := (blk_cell BK394.out 2).trans rfl; have hcz34_3 : w33.cell? ⟨gb394, 3, none⟩ = some (.bool ((rd_T109 l0 x5_1).f3)) := (blk_cell BK394.out 3).trans rfl; have hcz34_4 : w33.cell? ⟨gb394, 4, none⟩ = some (.string ((rd_T109 l0 x5_1).f4)) := (blk_cell BK394.out 4).trans rfl; have hcz34_5 : w33.cell? ⟨gb394, 5, none⟩ = some (.string ((rd_T109 l0 x5_1).f5)) := (blk_cell BK394.out 5).trans rfl; have hcz34_6 : w33.cell? ⟨gb394, 6, none⟩ = some (.string ((rd_T109 l0 x5_1).f6)) := (blk_cell BK394.out 6).trans rfl; have hcz34_7 : w33.cell? ⟨gb394, 7, none⟩ = some (.string ((rd_T109 l0 x5_1).f7)) := (blk_cell BK394.out 7).trans rfl; have hcz34_8 : w33.cell? ⟨gb394, 8, none⟩ = some (.bool ((rd_T109 l0 x5_1).f8)) := (blk_cell BK394.out 8).trans rfl; have hfz34_0 := blk_frozen BK394.out 0; have hfz34_1 := blk_frozen BK394.out 1; have hfz34_2 := blk_frozen BK394.out 2; have hfz34_3 := blk_frozen BK394.out 3; have hfz34_4 := blk_frozen BK394.out 4; have hfz34_5 := blk_frozen BK394.out 5; have hfz34_6 := blk_frozen BK394.out 6; have hfz34_7 := blk_frozen BK394.out 7; have hfz34_8 := blk_frozen BK394.out 8) | (go_at_call 21; (with_reducible refine (tripartiteref07_Run.calls k1 ((rd_T109 l0 x5_1).f6) t397 _ A18.out).mono ?_); rintro e w35 ⟨rfl, hb⟩; have n0_ := Aside0.mk (blk_below (g := gb394) (o := .cells #[.string ((rd_T109 l0 x5_1).f0), .string ((rd_T109 l0 x5_1).f1), .string ((rd_T109 l0 x5_1).f2), .bool ((rd_T109 l0 x5_1).f3), .string ((rd_T109 l0 x5_1).f4), .string ((rd_T109 l0 x5_1).f5), .string ((rd_T109 l0 x5_1).f6), .string ((rd_T109 l0 x5_1).f7), .bool ((rd_T109 l0 x5_1).f8)] 109 (0, 0)) (by (with_reducible repeat (first | refine blk_drewN ?_ _ | refine blk_drew ?_ | refine blk_alloc ?_ _)); exact BK394.out) hb); have n1_ := Aside0.mk (below_step (by repeat (first | (with_reducible first | exact HB.out | apply below_alloc | apply pw_below_drewN | apply below_drew1 | refine below_set ?_ GE394.out) | exact HB.out)) hb); clear BK394; clear HB; have BK394 := n0_; have HB := n1_; clear n0_ n1_; (try clear hb); (try clear hb2); (try clear hk); (try clear hi); have hcz36_0 : w35.cell? ⟨gb394, 0, none⟩ = some (.string ((rd_T109 l0 x5_1).f0)) := (blk_cell BK394.out 0).trans rfl; have hcz36_1 : w35.cell? ⟨gb394, 1, none⟩ = some (.string ((rd_T109 l0 x5_1).f1)) := (blk_cell BK394.out 1).trans rfl; have hcz36_2 : w35.cell? ⟨gb394, 2, none⟩ = some (.string ((rd_T109 l0 x5_1).f2)) := (blk_cell BK394.out 2).trans rfl; have hcz36_3 : w35.cell? ⟨gb394, 3, none⟩ = some (.bool ((rd_T109 l0 x5_1).f3)) := (blk_cell BK394.out 3).trans rfl; have hcz36_4 : w35.cell? ⟨gb394, 4, none⟩ = some (.string ((rd_T109 l0 x5_1).f4)) := (blk_cell BK394.out 4).trans rfl; have hcz36_5 : w35.cell? ⟨gb394, 5, none⟩ = some (.string ((rd_T109 l0 x5_1).f5)) := (blk_cell BK394.out 5).trans rfl; have hcz36_6 : w35.cell? ⟨gb394, 6, none⟩ = some (.string ((rd_T109 l0 x5_1).f6)) := (blk_cell BK394.out 6).trans rfl; have hcz36_7 : w35.cell? ⟨gb394, 7, none⟩ = some (.string ((rd_T109 l0 x5_1).f7)) := (blk_cell BK394.out 7).trans rfl; have hcz36_8 : w35.cell? ⟨gb394, 8, none⟩ = some (.bool ((rd_T109 l0 x5_1).f8)) := (blk_cell BK394.out 8).trans rfl; have hfz36_0 := blk_frozen BK394.out 0; have hfz36_1 := blk_frozen BK394.out 1; have hfz36_2 := blk_frozen BK394.out 2; have hfz36_3 := blk_frozen BK394.out 3; have hfz36_4 := blk_frozen BK394.out 4; have hfz36_5 := blk_frozen BK394.out 5; have hfz36_6 := blk_frozen BK394.out 6; have hfz36_7 := blk_frozen BK394.out 7; have hfz36_8 := blk_frozen BK394.out 8) | (go_at_call 21; (with_reducible refine (tripartiteref07_Run.calls k1 ((rd_T109 l0 x5_1).f7) t398 _ A27.out).mono ?_); rintro e w37 ⟨rfl, hb⟩; have n0_ := Aside0.mk (blk_below (g := gb394) (o := .cells #[.string ((rd_T109 l0 x5_1).f0), .string ((rd_T109 l0 x5_1).f1), .string ((rd_T109 l0 x5_1).f2), .bool ((rd_T109 l0 x5_1).f3), .string ((rd_T109 l0 x5_1).f4), .string ((rd_T109 l0 x5_1).f5), .string ((rd_T109 l0 x5_1).f6), .string ((rd_T109 l0 x5_1).f7), .bool ((rd_T109 l0 x5_1).f8)] 109 (0, 0)) (by (with_reducible repeat (first | refine blk_drewN ?_ _ | refine blk_drew ?_ | refine blk_alloc ?_ _)); exact BK394.out) hb); have n1_ := Aside0.mk (below_step (by repeat (first | (with_reducible first | exact HB.out | apply below_alloc | apply pw_below_drewN | apply below_drew1 | refine below_set ?_ GE394.out) | exact HB.out)) hb); clear BK394; clear HB; have BK394 := n0_; have HB := n1_; clear n0_ n1_; (try clear hb); (try clear hb2); (try clear hk); (try clear hi)))
                    go_ret
                    exact ⟨by first | rfl | (simp [errW_none, errW_some] <;> rfl) | (simp [*, errW_none, errW_some] <;> rfl), by repeat (first | (with_reducible first | exact HB.out | apply below_alloc | apply pw_below_drewN | apply below_drew1 | refine below_set ?_ GE394.out) | exact HB.out)⟩
                  · rw [if_neg c28] at H
                    have c28b0 : decide (a1 ≤ t398) = false := decide_eq_false c28
                    clear c28
                    have H' := Aside0.mk H
                    clear H
                    have p393 : 0 ≤ (x5_1 : Int) := of_decide_eq_true (by first | (with_reducible assumption) | assumption)
                    have q393 : x5_1 < (l0.length : Int) := of_decide_eq_true (by first | (with_reducible assumption) | assumption)
                    obtain ⟨ad393, e393, hx393_0, hx393_1, hx393_2, hx393_3, hx393_4, hx393_5, hx393_6, hx393_7, hx393_8⟩ := at_T109 HR0.out x5_1 p393 q393
                    cases e393
                    replace hx393_0 := (HB.out.cell (World.block_lt_of_cell? w _ hx393_0)).trans hx393_0
                    replace hx393_1 := (HB.out.cell (World.block_lt_of_cell? w _ hx393_1)).trans hx393_1
                    replace hx393_2 := (HB.out.cell (World.block_lt_of_cell? w _ hx393_2)).trans hx393_2
                    replace hx393_3 := (HB.out.cell (World.block_lt_of_cell? w _ hx393_3)).trans hx393_3
                    replace hx393_4 := (HB.out.cell (World.block_lt_of_cell? w _ hx393_4)).trans hx393_4
                    replace hx393_5 := (HB.out.cell (World.block_lt_of_cell? w _ hx393_5)).trans hx393_5
                    replace hx393_6 := (HB.out.cell (World.block_lt_of_cell? w _ hx393_6)).trans hx393_6
                    replace hx393_7 := (HB.out.cell (World.block_lt_of_cell? w _ hx393_7)).trans hx393_7
                    replace hx393_8 := (HB.out.cell (World.block_lt_of_cell? w _ hx393_8)).trans hx393_8
                    replace p393 := eq_true p393
                    replace q393 := eq_true q393
                    go_wp2_with (first | ((with_reducible refine gate_dst (N := 6) rfl ?_); refine box_event ?hg (N := 6) ?hd (cs := #[.string (⟨#[]⟩ : ByteArray), .string (⟨#[]⟩ : ByteArray), .string (⟨#[]⟩ : ByteArray), .bool false, .string (⟨#[]⟩ : ByteArray), .string (⟨#[]⟩ : ByteArray), .string (⟨#[]⟩ : ByteArray), .string (⟨#[]⟩ : ByteArray), .bool false]) (t := 109) ?hr ?_; (case hd => rfl); (case hg => rfl); (case hr => first | (go_simp; done) | (go_simp; rfl)); intro gb394 hg w38 hbox hb; have n0_ := Aside0.mk (below_step (by repeat (first | (with_reducible first | exact HB.out | apply below_alloc | apply pw_below_drewN | apply below_drew1) | exact HB.out)) hb); have n1_ := Aside0.mk (hbox); have n2_ := Aside0.mk ((by rw [hg]; exact (below_size (by repeat (first | (with_reducible first | exact HB.out | apply below_alloc | apply pw_below_drewN | apply below_drew1) | exact HB.out))) : w.heap.size ≤ gb394)); have n3_ := Aside0.mk ((by rw [hg]; exact (below_size (by repeat (first | (with_reducible first | exact HB.out | apply below_alloc | apply pw_below_drewN | apply below_drew1) | exact HB.out))) : w.heap.size ≤ gb394)); clear HB; have HB := n0_; have BK394 := n1_; have GW394 := n2_; have GE394 := n3_; clear n0_ n1_ n2_ n3_; clear hb hbox hg; have hcz39_0 : w38.cell? ⟨gb394, 0, none⟩ = some (.string (⟨#[]⟩ : ByteArray)) := (blk_cell BK394.out 0).trans rfl; have hcz39_1 : w38.cell? ⟨gb394, 1, none⟩ = some (.string (⟨#[]⟩ : ByteArray)) := (blk_cell BK394.out 1).trans rfl; have hcz39_2 : w38.cell? ⟨gb394, 2, none⟩ = some (.string (⟨#[]⟩ : ByteArray)) := (blk_cell BK394.out 2).trans rfl; have hcz39_3 : w38.cell? ⟨gb394, 3, none⟩ = some (.bool false) := (blk_cell BK394.out 3).trans rfl; have hcz39_4 : w38.cell? ⟨gb394, 4, none⟩ = some (.string (⟨#[]⟩ : ByteArray)) := (blk_cell BK394.out 4).trans rfl; have hcz39_5 : w38.cell? ⟨gb394, 5, none⟩ = some (.string (⟨#[]⟩ : ByteArray)) := (blk_cell BK394.out 5).trans rfl; have hcz39_6 : w38.cell? ⟨gb394, 6, none⟩ = some (.string (⟨#[]⟩ : ByteArray)) := (blk_cell BK394.out 6).trans rfl; have hcz39_7 : w38.cell? ⟨gb394, 7, none⟩ = some (.string (⟨#[]⟩ : ByteArray)) := (blk_cell BK394.out 7).trans rfl; have hcz39_8 : w38.cell? ⟨gb394, 8, none⟩ = some (.bool false) := (blk_cell BK394.out 8).trans rfl; have hfz39_0 := blk_frozen BK394.out 0; have hfz39_1 := blk_frozen BK394.out 1; have hfz39_2 := blk_frozen BK394.out 2; have hfz39_3 := blk_frozen BK394.out 3; have hfz39_4 := blk_frozen BK394.out 4; have hfz39_5 := blk_frozen BK394.out 5; have hfz39_6 := blk_frozen BK394.out 6; have hfz39_7 := blk_frozen BK394.out 7; have hfz39_8 := blk_frozen BK394.out 8) | ((with_reducible refine gate_callee (f := 21) rfl ?_); refine goesL_ (some 21) rfl rfl Try.func21 (by kernel_rfl) rfl #[.string ((rd_T109 l0 x5_1).f4)] rfl (by (try simp only [List.map_toArray, List.map_cons, List.map_nil]); first | done | rfl | (simp only [List.length_drop, List.length_take]; rfl)) ?_; (with_reducible refine (tripartiteref07_Run.calls k1 ((rd_T109 l0 x5_1).f4) t395 _ A6.out).mono ?_); rintro e w40 ⟨rfl, hb⟩; refine ⟨_, rfl, ?_⟩; have n0_ := Aside0.mk (blk_below (g := gb394) (o := .cells #[.string ((rd_T109 l0 x5_1).f0), .string ((rd_T109 l0 x5_1).f1), .string ((rd_T109 l0 x5_1).f2), .bool ((rd_T109 l0 x5_1).f3), .string ((rd_T109 l0 x5_1).f4), .string ((rd_T109 l0 x5_1).f5), .string ((rd_T109 l0 x5_1).f6), .string ((rd_T109 l0 x5_1).f7), .bool ((rd_T109 l0 x5_1).f8)] 109 (0, 0)) (by (with_reducible repeat (first | refine blk_drewN ?_ _ | refine blk_drew ?_ | refine blk_alloc ?_ _)); refine blk_put (cs := #[.string ((rd_T109 l0 x5_1).f0), .string ((rd_T109 l0 x5_1).f1), .string ((rd_T109 l0 x5_1).f2), .bool ((rd_T109 l0 x5_1).f3), .string ((rd_T109 l0 x5_1).f4), .string ((rd_T109 l0 x5_1).f5), .string ((rd_T109 l0 x5_1).f6), .string ((rd_T109 l0 x5_1).f7), .bool false]) ?_ 8 _ rfl; (with_reducible repeat (first | refine blk_drewN ?_ _ | refine blk_drew ?_ | refine blk_alloc ?_ _)); refine blk_put (cs := #[.string ((rd_T109 l0 x5_1).f0), .string ((rd_T109 l0 x5_1).f1), .string ((rd_T109 l0 x5_1).f2), .bool ((rd_T109 l0 x5_1).f3), .string ((rd_T109 l0 x5_1).f4), .string ((rd_T109 l0 x5_1).f5), .string ((rd_T109 l0 x5_1).f6), .string (⟨#[]⟩ : ByteArray), .bool false]) ?_ 7 _ rfl; (with_reducible repeat (first | refine blk_drewN ?_ _ | refine blk_drew ?_ | refine blk_alloc ?_ _)); refine blk_put (cs := #[.string ((rd_T109 l0 x5_1).f0), .string ((rd_T109 l0 x5_1).f1), .string ((rd_T109 l0 x5_1).f2), .bool ((rd_T109 l0 x5_1).f3), .string ((rd_T109 l0 x5_1).f4), .string ((rd_T109 l0 x5_1).f5), .string (⟨#[]⟩ : ByteArray), .string (⟨#[]⟩ : ByteArray), .bool false]) ?_ 6 _ rfl; (with_reducible repeat (first | refine blk_drewN ?_ _ | refine blk_drew ?_ | refine blk_alloc ?_ _)); refine blk_put (cs := #[.string ((rd_T109 l0 x5_1).f0), .string ((rd_T109 l0 x5_1).f1), .string ((rd_T109 l0 x5_1).f2), .bool ((rd_T109 l0 x5_1).f3), .string ((rd_T109 l0 x5_1).f4), .string (⟨#[]⟩ : ByteArray), .string (⟨#[]⟩ : ByteArray), .string (⟨#[]⟩ : ByteArray), .bool false]) ?_ 5 _ rfl; (with_reducible repeat (first | refine blk_drewN ?_ _ | refine blk_drew ?_ | refine blk_alloc ?_ _)); refine blk_put (cs := #[.string ((rd_T109 l0 x5_1).f0), .string ((rd_T109 l0 x5_1).f1), .string ((rd_T109 l0 x5_1).f2), .bool ((rd_T109 l0 x5_1).f3), .string (⟨#[]⟩ : ByteArray), .string (⟨#[]⟩ : ByteArray), .string (⟨#[]⟩ : ByteArray), .string (⟨#[]⟩ : ByteArray), .bool false]) ?_ 4 _ rfl; (with_reducible repeat (first | refine blk_drewN ?_ _ | refine blk_drew ?_ | refine blk_alloc ?_ _)); refine blk_put (cs := #[.string ((rd_T109 l0 x5_1).f0), .string ((rd_T109 l0 x5_1).f1), .string ((rd_T109 l0 x5_1).f2), .bool false, .string (⟨#[]⟩ : ByteArray), .string (⟨#[]⟩ : ByteArray), .string (⟨#[]⟩ : ByteArray), .string (⟨#[]⟩ : ByteArray), .bool false]) ?_ 3 _ rfl; (with_reducible repeat (first | refine blk_drewN ?_ _ | refine blk_drew ?_ | refine blk_alloc ?_ _)); refine blk_put (cs := #[.string ((rd_T109 l0 x5_1).f0), .string ((rd_T109 l0 x5_1).f1), .string (⟨#[]⟩ : ByteArray), .bool false, .string (⟨#[]⟩ : ByteArray), .string (⟨#[]⟩ : ByteArray), .string (⟨#[]⟩ : ByteArray), .string (⟨#[]⟩ : ByteArray), .bool false]) ?_ 2 _ rfl; (with_reducible repeat (first | refine blk_drewN ?_ _ | refine blk_drew ?_ | refine blk_alloc ?_ _)); refine blk_put (cs := #[.string ((rd_T109 l0 x5_1).f0), .string (⟨#[]⟩ : ByteArray), .string (⟨#[]⟩ : ByteArray), .bool false, .string (⟨#[]⟩ : ByteArray), .string (⟨#[]⟩ : ByteArray), .string (⟨#[]⟩ : ByteArray), .string (⟨#[]⟩ : ByteArray), .bool false]) ?_ 1 _ rfl; (with_reducible repeat (first | refine blk_drewN ?_ _ | refine blk_drew ?_ | refine blk_alloc ?_ _)); refine blk_put (cs := #[.string (⟨#[]⟩ : ByteArray), .string (⟨#[]⟩ : ByteArray), .string (⟨#[]⟩ : ByteArray), .bool false, .string (⟨#[]⟩ : ByteArray), .string (⟨#[]⟩ : ByteArray), .string (⟨#[]⟩ : ByteArray), .string (⟨#[]⟩ : ByteArray), .bool false]) ?_ 0 _ rfl; (with_reducible repeat (first | refine blk_drewN ?_ _ | refine blk_drew ?_ | refine blk_alloc ?_ _)); exact BK394.out) hb); have n1_ := Aside0.mk (below_step (by repeat (first | (with_reducible first | exact HB.out | apply below_alloc | apply pw_below_drewN | apply below_drew1 | refine below_set ?_ GE394.out) | exact HB.out)) hb); clear BK394; clear HB; have BK394 := n0_; have HB := n1_; clear n0_ n1_; (try clear hb); (try clear hb2); (try clear hk); (try clear hi); have hcz41_0 : w40.cell? ⟨gb394, 0, none⟩ = some (.string ((rd_T109 l0 x5_1).f0)) := (blk_cell BK394.out 0).trans rfl; have hcz41_1 : w40.cell? ⟨gb394, 1, none⟩ = some (.string ((rd_T109 l0 x5_1).f1)) := (blk_cell BK394.out 1).trans rfl; have hcz41_2 : w40.cell? ⟨gb394, 2, none⟩ = some (.string ((rd_T109 l0 x5_1).f2)) := (blk_cell BK394.out 2).trans rfl; have hcz41_3 : w40.cell? ⟨gb394, 3, none⟩ = some (.bool ((rd_T109 l0 x5_1).f3)) := (blk_cell BK394.out 3).trans rfl; have hcz41_4 : w40.cell? ⟨gb394, 4, none⟩ = some (.string ((rd_T109 l0 x5_1).f4)) := (blk_cell BK394.out 4).trans rfl; have hcz41_5 : w40.cell? ⟨gb394, 5, none⟩ = some (.string ((rd_T109 l0 x5_1).f5)) := (blk_cell BK394.out 5).trans rfl; have hcz41_6 : w40.cell? ⟨gb394, 6, none⟩ = some (.string ((rd_T109 l0 x5_1).f6)) := (blk_cell BK394.out 6).trans rfl; have hcz41_7 : w40.cell? ⟨gb394, 7, none⟩ = some (.string ((rd_T109 l0 x5_1).f7)) := (blk_cell BK394.out 7).trans rfl; have hcz41_8 : w40.cell? ⟨gb394, 8, none⟩ = some (.bool ((rd_T109 l0 x5_1).f8)) := (blk_cell BK394.out 8).trans rfl; have hfz41_0 := blk_frozen BK394.out 0; have hfz41_1 := blk_frozen BK394.out 1; have hfz41_2 := blk_frozen BK394.out 2; have hfz41_3 := blk_frozen BK394.out 3; have hfz41_4 := blk_frozen BK394.out 4; have hfz41_5 := blk_frozen BK394.out 5; have hfz41_6 := blk_frozen BK394.out 6; have hfz41_7 := blk_frozen BK394.out 7; have hfz41_8 := blk_frozen BK394.out 8) | (go_at_call 21; (with_reducible refine (tripartiteref07_Run.calls k1 ((rd_T109 l0 x5_1).f5) t396 _ A11.out).mono ?_); rintro e w42 ⟨rfl, hb⟩; have n0_ := Aside0.mk (blk_below (g := gb394) (o := .cells #[.string ((rd_T109 l0 x5_1).f0), .string ((rd_T109 l0 x5_1).f1), .string ((rd_T109 l0 x5_1).f2), .bool ((rd_T109 l0 x5_1).f3), .string ((rd_T109 l0 x5_1).f4), .string ((rd_T109 l0 x5_1).f5), .string ((rd_T109 l0 x5_1).f6), .string ((rd_T109 l0 x5_1).f7), .bool ((rd_T109 l0 x5_1).f8)] 109 (0, 0)) (by (with_reducible repeat (first | refine blk_drewN ?_ _ | refine blk_drew ?_ | refine blk_alloc ?_ _)); exact BK394.out) hb); have n1_ := Aside0.mk (below_step (by repeat (first | (with_reducible first | exact HB.out | apply below_alloc | apply pw_below_drewN | apply below_drew1 | refine below_set ?_ GE394.out) | exact HB.out)) hb); clear BK394; clear HB; have BK394 := n0_; have HB := n1_; clear n0_ n1_; (try clear hb); (try clear hb2); (try clear hk); (try clear hi); have hcz43_0 : w42.cell? ⟨gb394, 0, none⟩ = some (.string ((rd_T109 l0 x5_1).f0)) := (blk_cell BK394.out 0).trans rfl; have hcz43_1 : w42.cell? ⟨gb394, 1, none⟩ = some (.string ((rd_T109 l0 x5_1).f1)) := (blk_cell BK394.out 1).trans rfl; have hcz43_2 : w42.cell? ⟨gb394, 2, none⟩ = some (.string ((rd_T109 l0 x5_1).f2)) := (blk_cell BK394.out 2).trans rfl; have hcz43_3 : w42.cell? ⟨gb394, 3, none⟩ = some (.bool ((rd_T109 l0 x5_1).f3)) := (blk_cell BK394.out 3).trans rfl; have hcz43_4 : w42.cell? ⟨gb394, 4, none⟩ = some (.string ((rd_T109 l0 x5_1).f4)) := (blk_cell BK394.out 4).trans rfl; have hcz43_5 : w42.cell? ⟨gb394, 5, none⟩ = some (.string ((rd_T109 l0 x5_1).f5)) := (blk_cell BK394.out 5).trans rfl; have hcz43_6 : w42.cell? ⟨gb394, 6, none⟩ = some (.string ((rd_T109 l0 x5_1).f6)) := (blk_cell BK394.out 6).trans rfl; have hcz43_7 : w42.cell? ⟨gb394, 7, none⟩ = some (.string ((rd_T109 l0 x5_1).f7)) := (blk_cell BK394.out 7).trans rfl; have hcz43_8 : w42.cell? ⟨gb394, 8, none⟩ = some (.bool ((rd_T109 l0 x5_1).f8)) := (blk_cell BK394.out 8).trans rfl; have hfz43_0 := blk_frozen BK394.out 0; have hfz43_1 := blk_frozen BK394.out 1; have hfz43_2 := blk_frozen BK394.out 2; have hfz43_3 := blk_frozen BK394.out 3; have hfz43_4 := blk_frozen BK394.out 4; have hfz43_5 := blk_frozen BK394.out 5; have hfz43_6 := blk_frozen BK394.out 6; have hfz43_7 := blk_frozen BK394.out 7; have hfz43_8 := blk_frozen BK394.out 8) | (go_at_call 21; (with_reducible refine (tripartiteref07_Run.calls k1 ((rd_T109 l0 x5_1).f6) t397 _ A18.out).mono ?_); rintro e w44 ⟨rfl, hb⟩; have n0_ := Aside0.mk (blk_below (g := gb394) (o := .cells #[.string ((rd_T109 l0 x5_1).f0), .string ((rd_T109 l0 x5_1).f1), .string ((rd_T109 l0 x5_1).f2), .bool ((rd_T109 l0 x5_1).f3), .string ((rd_T109 l0 x5_1).f4), .string ((rd_T109 l0 x5_1).f5), .string ((rd_T109 l0 x5_1).f6), .string ((rd_T109 l0 x5_1).f7), .bool ((rd_T109 l0 x5_1).f8)] 109 (0, 0)) (by (with_reducible repeat (first | refine blk_drewN ?_ _ | refine blk_drew ?_ | refine blk_alloc ?_ _)); exact BK394.out) hb); have n1_ := Aside0.mk (below_step (by repeat (first | (with_reducible first | exact HB.out | apply below_alloc | apply pw_below_drewN | apply below_drew1 | refine below_set ?_ GE394.out) | exact HB.out)) hb); clear BK394; clear HB; have BK394 := n0_; have HB := n1_; clear n0_ n1_; (try clear hb); (try clear hb2); (try clear hk); (try clear hi); have hcz45_0 : w44.cell? ⟨gb394, 0, none⟩ = some (.string ((rd_T109 l0 x5_1).f0)) := (blk_cell BK394.out 0).trans rfl; have hcz45_1 : w44.cell? ⟨gb394, 1, none⟩ = some (.string ((rd_T109 l0 x5_1).f1)) := (blk_cell BK394.out 1).trans rfl; have hcz45_2 : w44.cell? ⟨gb394, 2, none⟩ = some (.string ((rd_T109 l0 x5_1).f2)) := (blk_cell BK394.out 2).trans rfl; have hcz45_3 : w44.cell? ⟨gb394, 3, none⟩ = some (.bool ((rd_T109 l0 x5_1).f3)) := (blk_cell BK394.out 3).trans rfl; have hcz45_4 : w44.cell? ⟨gb394, 4, none⟩ = some (.string ((rd_T109 l0 x5_1).f4)) := (blk_cell BK394.out 4).trans rfl; have hcz45_5 : w44.cell? ⟨gb394, 5, none⟩ = some (.string ((rd_T109 l0 x5_1).f5)) := (blk_cell BK394.out 5).trans rfl; have hcz45_6 : w44.cell? ⟨gb394, 6, none⟩ = some (.string ((rd_T109 l0 x5_1).f6)) := (blk_cell BK394.out 6).trans rfl; have hcz45_7 : w44.cell? ⟨gb394, 7, none⟩ = some (.string ((rd_T109 l0 x5_1).f7)) := (blk_cell BK394.out 7).trans rfl; have hcz45_8 : w44.cell? ⟨gb394, 8, none⟩ = some (.bool ((rd_T109 l0 x5_1).f8)) := (blk_cell BK394.out 8).trans rfl; have hfz45_0 := blk_frozen BK394.out 0; have hfz45_1 := blk_frozen BK394.out 1; have hfz45_2 := blk_frozen BK394.out 2; have hfz45_3 := blk_frozen BK394.out 3; have hfz45_4 := blk_frozen BK394.out 4; have hfz45_5 := blk_frozen BK394.out 5; have hfz45_6 := blk_frozen BK394.out 6; have hfz45_7 := blk_frozen BK394.out 7; have hfz45_8 := blk_frozen BK394.out 8) | (go_at_call 21; (with_reducible refine (tripartiteref07_Run.calls k1 ((rd_T109 l0 x5_1).f7) t398 _ A27.out).mono ?_); rintro e w46 ⟨rfl, hb⟩; have n0_ := Aside0.mk (blk_below (g := gb394) (o := .cells #[.string ((rd_T109 l0 x5_1).f0), .string ((rd_T109 l0 x5_1).f1), .string ((rd_T109 l0 x5_1).f2), .bool ((rd_T109 l0 x5_1).f3), .string ((rd_T109 l0 x5_1).f4), .string ((rd_T109 l0 x5_1).f5), .string ((rd_T109 l0 x5_1).f6), .string ((rd_T109 l0 x5_1).f7), .bool ((rd_T109 l0 x5_1).f8)] 109 (0, 0)) (by (with_reducible repeat (first | refine blk_drewN ?_ _ | refine blk_drew ?_ | refine blk_alloc ?_ _)); exact BK394.out) hb); have n1_ := Aside0.mk (below_step (by repeat (first | (with_reducible first | exact HB.out | apply below_alloc | apply pw_below_drewN | apply below_drew1 | refine below_set ?_ GE394.out) | exact HB.out)) hb); clear BK394; clear HB; have BK394 := n0_; have HB := n1_; clear n0_ n1_; (try clear hb); (try clear hb2); (try clear hk); (try clear hi)))
                    go_roundg k1
                    case measure => have := HK1.out; omega
                    case rel => exact ⟨(wrap64 (x5_1 + 1)), (by first | rfl | (simp; done) | (simp [*]; done)), H', ⟨by have := HK1.out; omega⟩, ⟨by repeat (first | (with_reducible first | exact HB.out | apply below_alloc | apply pw_below_drewN | apply below_drew1 | refine below_set ?_ GE394.out) | exact HB.out)⟩⟩
          · rw [if_neg c5] at H
            exact absurd H (by simp)
        · rw [if_neg c4] at H
          have c4b0 : decide (x5_1 < (l0.length : Int)) = false := decide_eq_false c4
          clear c4
          obtain rfl := Option.some.inj H
          go_wp2
          go_ret
          exact ⟨by first | rfl | (simp [errW_none, errW_some] <;> rfl) | (simp [*, errW_none, errW_some] <;> rfl), by repeat (first | (with_reducible first | exact HB.out | apply below_alloc | apply pw_below_drewN | apply below_drew1) | exact HB.out)⟩
end Go.Proofs.Ytfiamddinkokbaa.F
end

section
set_option linter.unusedVariables false
set_option linter.unusedSimpArgs false
namespace Go.Proofs.Ytfiamddinkokbaa.F
open Go.RowKit Go.Proofs.YtfiamddinkokbaaW.PrintWords Go.Proofs.YtfiamddinkokbaaW.PrintLast Go.Proofs.YtfiamddinkokbaaW.PrintMore
attribute [local go_sem] max2_int min2_int max_two min_two max_three min_three max_four min_four
set_option linter.unusedVariables false
set_option linter.unusedSimpArgs false
def tripartiteref08_side.f (a0 : ByteArray) : Option (ByteArray × Bool) := if a0.toList = ([] : List UInt8) then (some (a0, false)) else ((tripartiteref01_Ends.f a0).bind fun t399 => (if t399 = true then (some (a0, false)) else (if a0.size + 1 ≤ 9223372036854775807 then (some (a0 ++ (⟨#[10]⟩ : ByteArray), true)) else (none))))
set_option maxHeartbeats 8000000 in
set_option maxRecDepth 100000 in
theorem tripartiteref08_side.calls (a0 : ByteArray) (r1 : ByteArray) (r2 : Bool) (w : World) (h : tripartiteref08_side.f a0 = some (r1, r2)) :
    Calls Try.prog 93 #[.string a0] w fun e w' => e = .returned (.tuple #[.string r1, .bool r2]) ∧ Drawn0 w w' := by
  have H : (if a0.toList = ([] : List UInt8) then (some (a0, false)) else ((tripartiteref01_Ends.f a0).bind fun t399 => (if t399 = true then (some (a0, false)) else (if a0.size + 1 ≤ 9223372036854775807 then (some (a0 ++ (⟨#[10]⟩ : ByteArray), true)) else (none))))) = some (r1, r2) := h
  clear h
  by_cases c2 : a0.toList = ([] : List UInt8)
  · rw [if_pos c2] at H
    have c2b0 : (a0.toList == ([] : List UInt8)) = true := beq_iff_eq.mpr c2
    have c2b1 : (a0.toList != ([] : List UInt8)) = false := bne_eq_false_iff_eq.mpr c2
    clear c2
    simp only [Option.some.injEq, Prod.mk.injEq] at H
    obtain ⟨rfl, rfl⟩ := H
    go_enter Try.func93, Try.ntmps93
    go_wp2
    go_ret2
    exact ⟨by first | rfl | (simp; done) | (simp [*]; done), by repeat (first | exact Drawn0.refl _ | apply Drawn0.step)⟩
  · rw [if_neg c2] at H
    have c2b0 : (a0.toList == ([] : List UInt8)) = false := beq_eq_false_iff_ne.mpr c2
    have c2b1 : (a0.toList != ([] : List UInt8)) = true := bne_iff_ne.mpr c2
    replace H := Option.bind_eq_some_iff.mp H
    obtain ⟨t399, A30, H⟩ := H
    replace H : (if t399 = true then (some (a0, false)) else (if a0.size + 1 ≤ 9223372036854775807 then (some (a0 ++ (⟨#[10]⟩ : ByteArray), true)) else (none))) = some (r1, r2) := H
    have A3 := Aside0.mk A30
    clear A30
    by_cases c4 : t399 = true
    · subst c4
      have H1 : (some (a0, false)) = some (r1, r2) := by rw [if_pos rfl] at H; exact H
      clear H
      have H := H1
      clear H1
      simp only [Option.some.injEq, Prod.mk.injEq] at H
      obtain ⟨rfl, rfl⟩ := H
      go_enter Try.func93, Try.ntmps93
      go_wp2_with (first | (go_at_call 83; (with_reducible refine (tripartiteref01_Ends.calls a0 true _ A3.out).mono ?_); rintro e w' ⟨rfl, ⟨nd, rfl⟩⟩))
      go_ret2
      exact ⟨by first | rfl | (simp; done) | (simp [*]; done), by repeat (first | exact Drawn0.refl _ | apply Drawn0.step)⟩
    · replace c4 := Bool.eq_false_iff.mpr c4
      subst c4
      have H1 : (if a0.size + 1 ≤ 9223372036854775807 then (some (a0 ++ (⟨#[10]⟩ : ByteArray), true)) else (none)) = some (r1, r2) := by rw [if_neg (show ¬ (false = true) by decide)] at H; exact H
      clear H
      have H := H1
      clear H1
      by_cases c5 : a0.size + 1 ≤ 9223372036854775807
      · rw [if_pos c5] at H
        have c5b0 := eq_true c5
        have c5b1 : decide (a0.size + 1 ≤ 9223372036854775807) = true := decide_eq_true c5
        try have c5b2 : (9223372036854775807 < a0.size + 1) = False := eq_false (Nat.not_lt.2 c5)
        simp only [Option.some.injEq, Prod.mk.injEq] at H
        obtain ⟨rfl, rfl⟩ := H
        go_enter Try.func93, Try.ntmps93
        go_wp2_with (first | (go_at_call 83; (with_reducible refine (tripartiteref01_Ends.calls a0 false _ A3.out).mono ?_); rintro e w' ⟨rfl, ⟨nd, rfl⟩⟩))
        go_ret2
        exact ⟨by first | rfl | (simp; done) | (simp [*]; done), by repeat (first | exact Drawn0.refl _ | apply Drawn0.step)⟩
      · rw [if_neg c5] at H
        exact absurd H (by simp)
end Go.Proofs.Ytfiamddinkokbaa.F
end

section
set_option linter.unusedVariables false
set_option linter.unusedSimpArgs false
namespace Go.Proofs.Ytfiamddinkokbaa.F
open Go.RowKit Go.Proofs.YtfiamddinkokbaaW.PrintWords Go.Proofs.YtfiamddinkokbaaW.PrintLast Go.Proofs.YtfiamddinkokbaaW.PrintMore
attribute [local go_sem] max2_int min2_int max_two min_two max_three min_three max_four min_four
set_option linter.unusedVariables false
set_option linter.unusedSimpArgs false
def tripartiteref08_repeat.l0 : Nat → Int → Int → ByteArray → Int → Option (ByteArray)
  | 0, _, _, _, _ => none
  | k + 1, x0, x1, x5, x6 => if x6 < x1 then ((some (([x0] : List Int) : List Int)).bind fun y400 => (if x5.size + (strOfNums y400).size ≤ 9223372036854775807 then (tripartiteref08_repeat.l0 k x0 x1 (x5 ++ (strOfNums y400)) (wrap64 (x6 + 1))) else (none))) else (some x5)
def tripartiteref08_repeat.f (k : Nat) (a0 : Int) (a1 : Int) : Option (ByteArray) := tripartiteref08_repeat.l0 k a0 a1 (⟨#[]⟩ : ByteArray) 0
theorem tripartiteref08_repeat.mono_l : ∀ k, (∀ y0 y1 y2 y3, LeO (tripartiteref08_repeat.l0 k y0 y1 y2 y3) (tripartiteref08_repeat.l0 (k + 1) y0 y1 y2 y3))
  | 0 => fun _ _ _ _ r h => by simp [tripartiteref08_repeat.l0] at h
  | k + 1 => by
    have ih0 := tripartiteref08_repeat.mono_l k
    · intro y0 y1 y2 y3
      unfold tripartiteref08_repeat.l0
      repeat' first
      | (with_reducible exact ih0 _ _ _ _)
      | (with_reducible exact LeO.refl _)
      | (with_reducible exact LeO.none _)
      | (with_reducible refine LeO.ite ?_ ?_)
      | (with_reducible refine LeO.bind ?_ (fun _ => ?_))
      | exact ih0 _ _ _ _
      | exact LeO.none _
      | refine LeO.ite ?_ ?_
      | refine LeO.bind ?_ (fun _ => ?_)
theorem tripartiteref08_repeat.mono : ∀ a0 a1 k, LeO (tripartiteref08_repeat.f k a0 a1) (tripartiteref08_repeat.f (k + 1) a0 a1) := by
  intro a0 a1 k
  have ih0 := tripartiteref08_repeat.mono_l k
  unfold tripartiteref08_repeat.f
  repeat' first
      | (with_reducible exact ih0 _ _ _ _)
      | (with_reducible exact LeO.refl _)
      | (with_reducible exact LeO.none _)
      | (with_reducible refine LeO.ite ?_ ?_)
      | (with_reducible refine LeO.bind ?_ (fun _ => ?_))
      | exact ih0 _ _ _ _
      | exact LeO.none _
      | refine LeO.ite ?_ ?_
      | refine LeO.bind ?_ (fun _ => ?_)
set_option maxHeartbeats 8000000 in
set_option maxRecDepth 100000 in
theorem tripartiteref08_repeat.calls (k : Nat) (a0 : Int) (a1 : Int) (r : ByteArray) (w : World) (h : tripartiteref08_repeat.f k a0 a1 = some r) :
    Calls Try.prog 128 #[.int .u8 a0, .int .i64 a1] w fun e w' => e = .returned (.string r) ∧ Below w.heap.size w w' := by
  have HB := Aside0.mk (Below.refl w.heap.size w)
  have H : (tripartiteref08_repeat.l0 k a0 a1 (⟨#[]⟩ : ByteArray) 0) = some r := h
  clear h
  have H' := Aside0.mk H
  clear H
  go_enter Try.func128, Try.ntmps128
  go_wp2
  go_loopg [5, 6] k (fun kq v5 v6 w' => ∃ (x5_1 : ByteArray) (x6_1 : Int), v5 = .string x5_1 ∧ v6 = .int .i64 x6_1 ∧ Aside0 (tripartiteref08_repeat.l0 kq a0 a1 x5_1 x6_1 = some r) ∧ Aside0 (kq ≤ k) ∧ Aside0 (Below w.heap.size w w'))
  case atStart => exact ⟨((⟨#[]⟩ : ByteArray)), (0), (by first | rfl | (simp; done) | (simp [*]; done)), (by first | rfl | (simp; done) | (simp [*]; done)), H', ⟨Nat.le_refl _⟩, ⟨by repeat (first | (with_reducible first | exact HB.out | apply below_alloc | apply pw_below_drewN | apply below_drew1) | exact HB.out)⟩⟩
  case round =>
    clear H'
    try clear c1
    try clear p2
    obtain ⟨x5_1, x6_1, rfl, rfl, HA, HK1, HB⟩ := hrel
    cases gk with
    | zero => exact absurd HA.out (by simp [tripartiteref08_repeat.l0])
    | succ k1 =>
      have H := HA.out
      clear HA
      simp only [tripartiteref08_repeat.l0] at H
      by_cases c3 : x6_1 < a1
      · rw [if_pos c3] at H
        have c3b0 : decide (x6_1 < a1) = true := decide_eq_true c3
        clear c3
        obtain ⟨y400, hy400⟩ : ∃ y_ : List Int, y_ = (([a0] : List Int)) := ⟨_, rfl⟩
        replace H : (if x5_1.size + (strOfNums y400).size ≤ 9223372036854775807 then (tripartiteref08_repeat.l0 k1 a0 a1 (x5_1 ++ (strOfNums y400)) (wrap64 (x6_1 + 1))) else (none)) = some r := by first | (rw [hy400]; with_reducible exact H) | (have H2_ := (Option.bind_some _ _).symm.trans H; rw [hy400]; with_reducible exact H2_) | (have H2_ := (Option.bind_some _ _).symm.trans H; with_reducible exact H2_) | with_reducible exact H | (rw [hy400]; exact H) | exact H
        have Ny400 := Aside0.mk hy400
        clear hy400
        by_cases c4 : x5_1.size + (strOfNums y400).size ≤ 9223372036854775807
        · rw [if_pos c4] at H
          have c4b0 := eq_true c4
          have c4b1 : decide (x5_1.size + (strOfNums y400).size ≤ 9223372036854775807) = true := decide_eq_true c4
          try have c4b2 : (9223372036854775807 < x5_1.size + (strOfNums y400).size) = False := eq_false (Nat.not_lt.2 c4)
          have H' := Aside0.mk H
          clear H
          go_wp2_with (first | ((with_reducible refine gate_dst (N := 14) rfl ?_); refine Kd.R_lit (Kd.int .u8) _ 5 ?hg (N := 14) ?hd (xs := ([a0] : List Int)) (inner := [.int .u8 a0]) (ok := fun _ => True) (okp := fun _ => True) ?hr ?hp (fun _ hk => hk) trivial (Below.refl _ _) (Nat.le_refl _) (by simp) ?_; (case hd => rfl); (case hg => rfl); (case hr => first | (go_simp; done) | (go_simp; rfl)); (case hp => exact (Reps.one (show Kd.M (Kd.int .u8) _ _ _ a0 [.int .u8 a0] from rfl) (Reps.none _ _))); intro v401 w5 ho6 hb hg_ hnew_; clear hg_ hnew_; (first | rw [← Ny400.out] at ho6 | (simp only [Int.reduceToNat] at ho6; rw [← Ny400.out] at ho6)); have n0_ := Aside0.mk (Kd.R_lower ho6 (below_size (by repeat (first | (with_reducible first | exact HB.out | apply below_alloc | apply pw_below_drewN | apply below_drew1) | exact HB.out)))); have n1_ := Aside0.mk (below_step (by repeat (first | (with_reducible first | exact HB.out | apply below_alloc | apply pw_below_drewN | apply below_drew1) | exact HB.out)) hb); clear HB; have HO402 := n0_; have HB := n1_; clear n0_ n1_; clear hb ho6; have hcv7 := own_string (P := Try.prog) Try.underlying125 Try.underlying5 Try.underlying9 (Kd.own_of_R HO402.out)))
          go_roundg k1
          case measure => have := HK1.out; omega
          case rel => exact ⟨(x5_1 ++ (strOfNums y400)), (wrap64 (x6_1 + 1)), (by first | rfl | (simp; done) | (simp [*]; done)), (by first | rfl | (simp; done) | (simp [*]; done)), H', ⟨by have := HK1.out; omega⟩, ⟨by repeat (first | (with_reducible first | exact HB.out | apply below_alloc | apply pw_below_drewN | apply below_drew1) | exact HB.out)⟩⟩
        · rw [if_neg c4] at H
          exact absurd H (by simp)
      · rw [if_neg c3] at H
        have c3b0 : decide (x6_1 < a1) = false := decide_eq_false c3
        clear c3
        obtain rfl := Option.some.inj H
        go_wp2
        go_ret
        exact ⟨by first | rfl | (simp [errW_none, errW_some] <;> rfl) | (simp [*, errW_none, errW_some] <;> rfl), by repeat (first | (with_reducible first | exact HB.out | apply below_alloc | apply pw_below_drewN | apply below_drew1) | exact HB.out)⟩
end Go.Proofs.Ytfiamddinkokbaa.F
end

section
set_option linter.unusedVariables false
set_option linter.unusedSimpArgs false
namespace Go.Proofs.Ytfiamddinkokbaa.F
open Go.RowKit Go.Proofs.YtfiamddinkokbaaW.PrintWords Go.Proofs.YtfiamddinkokbaaW.PrintLast Go.Proofs.YtfiamddinkokbaaW.PrintMore
attribute [local go_sem] max2_int min2_int max_two min_two max_three min_three max_four min_four
set_option linter.unusedVariables false
set_option linter.unusedSimpArgs false
def tripartiteref08_line.f (k : Nat) (a0_0 : Int) (a0_1 : Bool) (a0_2 : ByteArray) (a1 : Int) : Option (ByteArray) := (tripartiteref08_repeat.f k a0_0 a1).bind fun t404 => (if a0_1 = true then (if t404.size + 1 ≤ 9223372036854775807 then (if a0_2.toList = ([] : List UInt8) then (if (t404 ++ (⟨#[33]⟩ : ByteArray)).size + 1 ≤ 9223372036854775807 then (some ((t404 ++ (⟨#[33]⟩ : ByteArray)) ++ (⟨#[10]⟩ : ByteArray))) else (none)) else (if (t404 ++ (⟨#[33]⟩ : ByteArray)).size + 1 ≤ 9223372036854775807 then (if ((t404 ++ (⟨#[33]⟩ : ByteArray)) ++ (⟨#[32]⟩ : ByteArray)).size + a0_2.size ≤ 9223372036854775807 then (if (((t404 ++ (⟨#[33]⟩ : ByteArray)) ++ (⟨#[32]⟩ : ByteArray)) ++ a0_2).size + 1 ≤ 9223372036854775807 then (some ((((t404 ++ (⟨#[33]⟩ : ByteArray)) ++ (⟨#[32]⟩ : ByteArray)) ++ a0_2) ++ (⟨#[10]⟩ : ByteArray))) else (none)) else (none)) else (none))) else (none)) else (if a0_2.toList = ([] : List UInt8) then (if t404.size + 1 ≤ 9223372036854775807 then (some (t404 ++ (⟨#[10]⟩ : ByteArray))) else (none)) else (if t404.size + 1 ≤ 9223372036854775807 then (if (t404 ++ (⟨#[32]⟩ : ByteArray)).size + a0_2.size ≤ 9223372036854775807 then (if ((t404 ++ (⟨#[32]⟩ : ByteArray)) ++ a0_2).size + 1 ≤ 9223372036854775807 then (some (((t404 ++ (⟨#[32]⟩ : ByteArray)) ++ a0_2) ++ (⟨#[10]⟩ : ByteArray))) else (none)) else (none)) else (none))))
theorem tripartiteref08_line.mono : ∀ a0 a1 a2 a3 k, LeO (tripartiteref08_line.f k a0 a1 a2 a3) (tripartiteref08_line.f (k + 1) a0 a1 a2 a3) := by
  intro a0 a1 a2 a3 k
  unfold tripartiteref08_line.f
  repeat' first
      | (with_reducible exact tripartiteref08_repeat.mono _ _ _)
      | (with_reducible exact LeO.refl _)
      | (with_reducible exact LeO.none _)
      | (with_reducible refine LeO.ite ?_ ?_)
      | (with_reducible refine LeO.bind ?_ (fun _ => ?_))
      | exact tripartiteref08_repeat.mono _ _ _
      | exact LeO.none _
      | refine LeO.ite ?_ ?_
      | refine LeO.bind ?_ (fun _ => ?_)
set_option maxHeartbeats 8000000 in
set_option maxRecDepth 100000 in
theorem tripartiteref08_line.calls (k : Nat) (a0_0 : Int) (a0_1 : Bool) (a0_2 : ByteArray) (a1 : Int) (r : ByteArray) (w : World) (h : tripartiteref08_line.f k a0_0 a0_1 a0_2 a1 = some r) :
    Calls Try.prog 94 #[.agg #[.int .u8 a0_0, .bool a0_1, .string a0_2], .int .i64 a1] w fun e w' => e = .returned (.string r) ∧ Below w.heap.size w w' := by
  have hu60 := Try.underlying60
  have HB := Aside0.mk (Below.refl w.heap.size w)
  have H : ((tripartiteref08_repeat.f k a0_0 a1).bind fun t404 => (if a0_1 = true then (if t404.size + 1 ≤ 9223372036854775807 then (if a0_2.toList = ([] : List UInt8) then (if (t404 ++ (⟨#[33]⟩ : ByteArray)).size + 1 ≤ 9223372036854775807 then (some ((t404 ++ (⟨#[33]⟩ : ByteArray)) ++ (⟨#[10]⟩ : ByteArray))) else (none)) else (if (t404 ++ (⟨#[33]⟩ : ByteArray)).size + 1 ≤ 9223372036854775807 then (if ((t404 ++ (⟨#[33]⟩ : ByteArray)) ++ (⟨#[32]⟩ : ByteArray)).size + a0_2.size ≤ 9223372036854775807 then (if (((t404 ++ (⟨#[33]⟩ : ByteArray)) ++ (⟨#[32]⟩ : ByteArray)) ++ a0_2).size + 1 ≤ 9223372036854775807 then (some ((((t404 ++ (⟨#[33]⟩ : ByteArray)) ++ (⟨#[32]⟩ : ByteArray)) ++ a0_2) ++ (⟨#[10]⟩ : ByteArray))) else (none)) else (none)) else (none))) else (none)) else (if a0_2.toList = ([] : List UInt8) then (if t404.size + 1 ≤ 9223372036854775807 then (some (t404 ++ (⟨#[10]⟩ : ByteArray))) else (none)) else (if t404.size + 1 ≤ 9223372036854775807 then (if (t404 ++ (⟨#[32]⟩ : ByteArray)).size + a0_2.size ≤ 9223372036854775807 then (if ((t404 ++ (⟨#[32]⟩ : ByteArray)) ++ a0_2).size + 1 ≤ 9223372036854775807 then (some (((t404 ++ (⟨#[32]⟩ : ByteArray)) ++ a0_2) ++ (⟨#[10]⟩ : ByteArray))) else (none)) else (none)) else (none))))) = some r := h
  clear h
  replace H := Option.bind_eq_some_iff.mp H
  obtain ⟨t404, A30, H⟩ := H
  replace H : (if a0_1 = true then (if t404.size + 1 ≤ 9223372036854775807 then (if a0_2.toList = ([] : List UInt8) then (if (t404 ++ (⟨#[33]⟩ : ByteArray)).size + 1 ≤ 9223372036854775807 then (some ((t404 ++ (⟨#[33]⟩ : ByteArray)) ++ (⟨#[10]⟩ : ByteArray))) else (none)) else (if (t404 ++ (⟨#[33]⟩ : ByteArray)).size + 1 ≤ 9223372036854775807 then (if ((t404 ++ (⟨#[33]⟩ : ByteArray)) ++ (⟨#[32]⟩ : ByteArray)).size + a0_2.size ≤ 9223372036854775807 then (if (((t404 ++ (⟨#[33]⟩ : ByteArray)) ++ (⟨#[32]⟩ : ByteArray)) ++ a0_2).size + 1 ≤ 9223372036854775807 then (some ((((t404 ++ (⟨#[33]⟩ : ByteArray)) ++ (⟨#[32]⟩ : ByteArray)) ++ a0_2) ++ (⟨#[10]⟩ : ByteArray))) else (none)) else (none)) else (none))) else (none)) else (if a0_2.toList = ([] : List UInt8) then (if t404.size + 1 ≤ 9223372036854775807 then (some (t404 ++ (⟨#[10]⟩ : ByteArray))) else (none)) else (if t404.size + 1 ≤ 9223372036854775807 then (if (t404 ++ (⟨#[32]⟩ : ByteArray)).size + a0_2.size ≤ 9223372036854775807 then (if ((t404 ++ (⟨#[32]⟩ : ByteArray)) ++ a0_2).size + 1 ≤ 9223372036854775807 then (some (((t404 ++ (⟨#[32]⟩ : ByteArray)) ++ a0_2) ++ (⟨#[10]⟩ : ByteArray))) else (none)) else (none)) else (none)))) = some r := H
  have A3 := Aside0.mk A30
  clear A30
  by_cases c4 : a0_1 = true
  · subst c4
    have H1 : (if t404.size + 1 ≤ 9223372036854775807 then (if a0_2.toList = ([] : List UInt8) then (if (t404 ++ (⟨#[33]⟩ : ByteArray)).size + 1 ≤ 9223372036854775807 then (some ((t404 ++ (⟨#[33]⟩ : ByteArray)) ++ (⟨#[10]⟩ : ByteArray))) else (none)) else (if (t404 ++ (⟨#[33]⟩ : ByteArray)).size + 1 ≤ 9223372036854775807 then (if ((t404 ++ (⟨#[33]⟩ : ByteArray)) ++ (⟨#[32]⟩ : ByteArray)).size + a0_2.size ≤ 9223372036854775807 then (if (((t404 ++ (⟨#[33]⟩ : ByteArray)) ++ (⟨#[32]⟩ : ByteArray)) ++ a0_2).size + 1 ≤ 9223372036854775807 then (some ((((t404 ++ (⟨#[33]⟩ : ByteArray)) ++ (⟨#[32]⟩ : ByteArray)) ++ a0_2) ++ (⟨#[10]⟩ : ByteArray))) else (none)) else (none)) else (none))) else (none)) = some r := by rw [if_pos rfl] at H; exact H
    clear H
    have H := H1
    clear H1
    by_cases c5 : t404.size + 1 ≤ 9223372036854775807
    · rw [if_pos c5] at H
      have c5b0 := eq_true c5
      have c5b1 : decide (t404.size + 1 ≤ 9223372036854775807) = true := decide_eq_true c5
      try have c5b2 : (9223372036854775807 < t404.size + 1) = False := eq_false (Nat.not_lt.2 c5)
      by_cases c6 : a0_2.toList = ([] : List UInt8)
      · rw [if_pos c6] at H
        have c6b0 : (a0_2.toList == ([] : List UInt8)) = true := beq_iff_eq.mpr c6
        have c6b1 : (a0_2.toList != ([] : List UInt8)) = false := bne_eq_false_iff_eq.mpr c6
        clear c6
        by_cases c7 : (t404 ++ (⟨#[33]⟩ : ByteArray)).size + 1 ≤ 9223372036854775807
        · rw [if_pos c7] at H
          have c7b0 := eq_true c7
          have c7b1 : decide ((t404 ++ (⟨#[33]⟩ : ByteArray)).size + 1 ≤ 9223372036854775807) = true := decide_eq_true c7
          try have c7b2 : (9223372036854775807 < (t404 ++ (⟨#[33]⟩ : ByteArray)).size + 1) = False := eq_false (Nat.not_lt.2 c7)
          try have c7b3 : (9223372036854775807 < t404.size + 1 + 1) = False := eq_false (Nat.not_lt.2 (Nat.le_trans (Nat.le_of_eq (by first | rfl | (simp only [ByteArray.size_append]; done) | (simp only [ByteArray.size_append]; rfl))) c7))
          obtain rfl := Option.some.inj H
          go_enter Try.func94, Try.ntmps94
          go_wp2_with (first | ((with_reducible refine gate_dst (N := 2) rfl ?_); refine box_event ?hg (N := 2) ?hd (cs := #[.int .u8 a0_0, .bool true, .string a0_2]) (t := 60) ?hr ?_; (case hd => rfl); (case hg => rfl); (case hr => first | (go_simp; done) | (go_simp; rfl)); intro gb403 hg w8 hbox hb; have n0_ := Aside0.mk (below_step (by repeat (first | (with_reducible first | exact HB.out | apply below_alloc | apply pw_below_drewN | apply below_drew1) | exact HB.out)) hb); have n1_ := Aside0.mk (hbox); have n2_ := Aside0.mk ((by rw [hg]; exact (below_size (by repeat (first | (with_reducible first | exact HB.out | apply below_alloc | apply pw_below_drewN | apply below_drew1) | exact HB.out))) : w.heap.size ≤ gb403)); have n3_ := Aside0.mk ((by rw [hg]; exact (below_size (by repeat (first | (with_reducible first | exact HB.out | apply below_alloc | apply pw_below_drewN | apply below_drew1) | exact HB.out))) : w.heap.size ≤ gb403)); clear HB; have HB := n0_; have BK403 := n1_; have GW403 := n2_; have GE403 := n3_; clear n0_ n1_ n2_ n3_; clear hb hbox hg; have hcz9_0 : w8.cell? ⟨gb403, 0, none⟩ = some (.int .u8 a0_0) := (blk_cell BK403.out 0).trans rfl; have hcz9_1 : w8.cell? ⟨gb403, 1, none⟩ = some (.bool true) := (blk_cell BK403.out 1).trans rfl; have hcz9_2 : w8.cell? ⟨gb403, 2, none⟩ = some (.string a0_2) := (blk_cell BK403.out 2).trans rfl; have hfz9_0 := blk_frozen BK403.out 0; have hfz9_1 := blk_frozen BK403.out 1; have hfz9_2 := blk_frozen BK403.out 2) | ((with_reducible refine gate_callee (f := 128) rfl ?_); refine goesL_ (some 9) rfl rfl Try.func128 (by kernel_rfl) rfl #[.int .u8 a0_0, .int .i64 a1] rfl (by (try simp only [List.map_toArray, List.map_cons, List.map_nil]); first | done | rfl | (simp only [List.length_drop, List.length_take]; rfl)) ?_; (with_reducible refine (tripartiteref08_repeat.calls k a0_0 a1 t404 _ A3.out).mono ?_); rintro e w10 ⟨rfl, hb⟩; refine ⟨_, rfl, ?_⟩; have n0_ := Aside0.mk (blk_below (g := gb403) (o := .cells #[.int .u8 a0_0, .bool true, .string a0_2] 60 (0, 0)) (by (with_reducible repeat (first | refine blk_drewN ?_ _ | refine blk_drew ?_ | refine blk_alloc ?_ _)); exact BK403.out) hb); have n1_ := Aside0.mk (below_step (by repeat (first | (with_reducible first | exact HB.out | apply below_alloc | apply pw_below_drewN | apply below_drew1 | refine below_set ?_ GE403.out) | exact HB.out)) hb); clear BK403; clear HB; have BK403 := n0_; have HB := n1_; clear n0_ n1_; (try clear hb); (try clear hb2); (try clear hk); (try clear hi); have hcz11_0 : w10.cell? ⟨gb403, 0, none⟩ = some (.int .u8 a0_0) := (blk_cell BK403.out 0).trans rfl; have hcz11_1 : w10.cell? ⟨gb403, 1, none⟩ = some (.bool true) := (blk_cell BK403.out 1).trans rfl; have hcz11_2 : w10.cell? ⟨gb403, 2, none⟩ = some (.string a0_2) := (blk_cell BK403.out 2).trans rfl; have hfz11_0 := blk_frozen BK403.out 0; have hfz11_1 := blk_frozen BK403.out 1; have hfz11_2 := blk_frozen BK403.out 2))
          go_ret
          exact ⟨by first | rfl | (simp [errW_none, errW_some] <;> rfl) | (simp [*, errW_none, errW_some] <;> rfl), by repeat (first | (with_reducible first | exact HB.out | apply below_alloc | apply pw_below_drewN | apply below_drew1 | refine below_set ?_ GE403.out) | exact HB.out)⟩
        · rw [if_neg c7] at H
          exact absurd H (by simp)
      · rw [if_neg c6] at H
        have c6b0 : (a0_2.toList == ([] : List UInt8)) = false := beq_eq_false_iff_ne.mpr c6
        have c6b1 : (a0_2.toList != ([] : List UInt8)) = true := bne_iff_ne.mpr c6
        by_cases c12 : (t404 ++ (⟨#[33]⟩ : ByteArray)).size + 1 ≤ 9223372036854775807
        · rw [if_pos c12] at H
          have c12b0 := eq_true c12
          have c12b1 : decide ((t404 ++ (⟨#[33]⟩ : ByteArray)).size + 1 ≤ 9223372036854775807) = true := decide_eq_true c12
          try have c12b2 : (9223372036854775807 < (t404 ++ (⟨#[33]⟩ : ByteArray)).size + 1) = False := eq_false (Nat.not_lt.2 c12)
          try have c12b3 : (9223372036854775807 < t404.size + 1 + 1) = False := eq_false (Nat.not_lt.2 (Nat.le_trans (Nat.le_of_eq (by first | rfl | (simp only [ByteArray.size_append]; done) | (simp only [ByteArray.size_append]; rfl))) c12))
          by_cases c13 : ((t404 ++ (⟨#[33]⟩ : ByteArray)) ++ (⟨#[32]⟩ : ByteArray)).size + a0_2.size ≤ 9223372036854775807
          · rw [if_pos c13] at H
            have c13b0 := eq_true c13
            have c13b1 : decide (((t404 ++ (⟨#[33]⟩ : ByteArray)) ++ (⟨#[32]⟩ : ByteArray)).size + a0_2.size ≤ 9223372036854775807) = true := decide_eq_true c13
            try have c13b2 : (9223372036854775807 < ((t404 ++ (⟨#[33]⟩ : ByteArray)) ++ (⟨#[32]⟩ : ByteArray)).size + a0_2.size) = False := eq_false (Nat.not_lt.2 c13)
            try have c13b3 : (9223372036854775807 < t404.size + 1 + 1 + a0_2.size) = False := eq_false (Nat.not_lt.2 (Nat.le_trans (Nat.le_of_eq (by first | rfl | (simp only [ByteArray.size_append]; done) | (simp only [ByteArray.size_append]; rfl))) c13))
            by_cases c14 : (((t404 ++ (⟨#[33]⟩ : ByteArray)) ++ (⟨#[32]⟩ : ByteArray)) ++ a0_2).size + 1 ≤ 9223372036854775807
            · rw [if_pos c14] at H
              have c14b0 := eq_true c14
              have c14b1 : decide ((((t404 ++ (⟨#[33]⟩ : ByteArray)) ++ (⟨#[32]⟩ : ByteArray)) ++ a0_2).size + 1 ≤ 9223372036854775807) = true := decide_eq_true c14
              try have c14b2 : (9223372036854775807 < (((t404 ++ (⟨#[33]⟩ : ByteArray)) ++ (⟨#[32]⟩ : ByteArray)) ++ a0_2).size + 1) = False := eq_false (Nat.not_lt.2 c14)
              try have c14b3 : (9223372036854775807 < t404.size + 1 + 1 + a0_2.size + 1) = False := eq_false (Nat.not_lt.2 (Nat.le_trans (Nat.le_of_eq (by first | rfl | (simp only [ByteArray.size_append]; done) | (simp only [ByteArray.size_append]; rfl))) c14))
              obtain rfl := Option.some.inj H
              go_enter Try.func94, Try.ntmps94
              go_wp2_with (first | ((with_reducible refine gate_dst (N := 2) rfl ?_); refine box_event ?hg (N := 2) ?hd (cs := #[.int .u8 a0_0, .bool true, .string a0_2]) (t := 60) ?hr ?_; (case hd => rfl); (case hg => rfl); (case hr => first | (go_simp; done) | (go_simp; rfl)); intro gb403 hg w15 hbox hb; have n0_ := Aside0.mk (below_step (by repeat (first | (with_reducible first | exact HB.out | apply below_alloc | apply pw_below_drewN | apply below_drew1) | exact HB.out)) hb); have n1_ := Aside0.mk (hbox); have n2_ := Aside0.mk ((by rw [hg]; exact (below_size (by repeat (first | (with_reducible first | exact HB.out | apply below_alloc | apply pw_below_drewN | apply below_drew1) | exact HB.out))) : w.heap.size ≤ gb403)); have n3_ := Aside0.mk ((by rw [hg]; exact (below_size (by repeat (first | (with_reducible first | exact HB.out | apply below_alloc | apply pw_below_drewN | apply below_drew1) | exact HB.out))) : w.heap.size ≤ gb403)); clear HB; have HB := n0_; have BK403 := n1_; have GW403 := n2_; have GE403 := n3_; clear n0_ n1_ n2_ n3_; clear hb hbox hg; have hcz16_0 : w15.cell? ⟨gb403, 0, none⟩ = some (.int .u8 a0_0) := (blk_cell BK403.out 0).trans rfl; have hcz16_1 : w15.cell? ⟨gb403, 1, none⟩ = some (.bool true) := (blk_cell BK403.out 1).trans rfl; have hcz16_2 : w15.cell? ⟨gb403, 2, none⟩ = some (.string a0_2) := (blk_cell BK403.out 2).trans rfl; have hfz16_0 := blk_frozen BK403.out 0; have hfz16_1 := blk_frozen BK403.out 1; have hfz16_2 := blk_frozen BK403.out 2) | ((with_reducible refine gate_callee (f := 128) rfl ?_); refine goesL_ (some 9) rfl rfl Try.func128 (by kernel_rfl) rfl #[.int .u8 a0_0, .int .i64 a1] rfl (by (try simp only [List.map_toArray, List.map_cons, List.map_nil]); first | done | rfl | (simp only [List.length_drop, List.length_take]; rfl)) ?_; (with_reducible refine (tripartiteref08_repeat.calls k a0_0 a1 t404 _ A3.out).mono ?_); rintro e w17 ⟨rfl, hb⟩; refine ⟨_, rfl, ?_⟩; have n0_ := Aside0.mk (blk_below (g := gb403) (o := .cells #[.int .u8 a0_0, .bool true, .string a0_2] 60 (0, 0)) (by (with_reducible repeat (first | refine blk_drewN ?_ _ | refine blk_drew ?_ | refine blk_alloc ?_ _)); exact BK403.out) hb); have n1_ := Aside0.mk (below_step (by repeat (first | (with_reducible first | exact HB.out | apply below_alloc | apply pw_below_drewN | apply below_drew1 | refine below_set ?_ GE403.out) | exact HB.out)) hb); clear BK403; clear HB; have BK403 := n0_; have HB := n1_; clear n0_ n1_; (try clear hb); (try clear hb2); (try clear hk); (try clear hi); have hcz18_0 : w17.cell? ⟨gb403, 0, none⟩ = some (.int .u8 a0_0) := (blk_cell BK403.out 0).trans rfl; have hcz18_1 : w17.cell? ⟨gb403, 1, none⟩ = some (.bool true) := (blk_cell BK403.out 1).trans rfl; have hcz18_2 : w17.cell? ⟨gb403, 2, none⟩ = some (.string a0_2) := (blk_cell BK403.out 2).trans rfl; have hfz18_0 := blk_frozen BK403.out 0; have hfz18_1 := blk_frozen BK403.out 1; have hfz18_2 := blk_frozen BK403.out 2))
              go_ret
              exact ⟨by first | rfl | (simp [errW_none, errW_some] <;> rfl) | (simp [*, errW_none, errW_some] <;> rfl), by repeat (first | (with_reducible first | exact HB.out | apply below_alloc | apply pw_below_drewN | apply below_drew1 | refine below_set ?_ GE403.out) | exact HB.out)⟩
            · rw [if_neg c14] at H
              exact absurd H (by simp)
          · rw [if_neg c13] at H
            exact absurd H (by simp)
        · rw [if_neg c12] at H
          exact absurd H (by simp)
    · rw [if_neg c5] at H
      exact absurd H (by simp)
  · replace c4 := Bool.eq_false_iff.mpr c4
    subst c4
    have H1 : (if a0_2.toList = ([] : List UInt8) then (if t404.size + 1 ≤ 9223372036854775807 then (some (t404 ++ (⟨#[10]⟩ : ByteArray))) else (none)) else (if t404.size + 1 ≤ 9223372036854775807 then (if (t404 ++ (⟨#[32]⟩ : ByteArray)).size + a0_2.size ≤ 9223372036854775807 then (if ((t404 ++ (⟨#[32]⟩ : ByteArray)) ++ a0_2).size + 1 ≤ 9223372036854775807 then (some (((t404 ++ (⟨#[32]⟩ : ByteArray)) ++ a0_2) ++ (⟨#[10]⟩ : ByteArray))) else (none)) else (none)) else (none))) = some r := by rw [if_neg (show ¬ (false = true) by decide)] at H; exact H
    clear H
    have H := H1
    clear H1
    by_cases c19 : a0_2.toList = ([] : List UInt8)
    · rw [if_pos c19] at H
      have c19b0 : (a0_2.toList == ([] : List UInt8)) = true := beq_iff_eq.mpr c19
      have c19b1 : (a0_2.toList != ([] : List UInt8)) = false := bne_eq_false_iff_eq.mpr c19
      clear c19
      by_cases c20 : t404.size + 1 ≤ 9223372036854775807
      · rw [if_pos c20] at H
        have c20b0 := eq_true c20
        have c20b1 : decide (t404.size + 1 ≤ 9223372036854775807) = true := decide_eq_true c20
        try have c20b2 : (9223372036854775807 < t404.size + 1) = False := eq_false (Nat.not_lt.2 c20)
        obtain rfl := Option.some.inj H
        go_enter Try.func94, Try.ntmps94
        go_wp2_with (first | ((with_reducible refine gate_dst (N := 2) rfl ?_); refine box_event ?hg (N := 2) ?hd (cs := #[.int .u8 a0_0, .bool false, .string a0_2]) (t := 60) ?hr ?_; (case hd => rfl); (case hg => rfl); (case hr => first | (go_simp; done) | (go_simp; rfl)); intro gb403 hg w21 hbox hb; have n0_ := Aside0.mk (below_step (by repeat (first | (with_reducible first | exact HB.out | apply below_alloc | apply pw_below_drewN | apply below_drew1) | exact HB.out)) hb); have n1_ := Aside0.mk (hbox); have n2_ := Aside0.mk ((by rw [hg]; exact (below_size (by repeat (first | (with_reducible first | exact HB.out | apply below_alloc | apply pw_below_drewN | apply below_drew1) | exact HB.out))) : w.heap.size ≤ gb403)); have n3_ := Aside0.mk ((by rw [hg]; exact (below_size (by repeat (first | (with_reducible first | exact HB.out | apply below_alloc | apply pw_below_drewN | apply below_drew1) | exact HB.out))) : w.heap.size ≤ gb403)); clear HB; have HB := n0_; have BK403 := n1_; have GW403 := n2_; have GE403 := n3_; clear n0_ n1_ n2_ n3_; clear hb hbox hg; have hcz22_0 : w21.cell? ⟨gb403, 0, none⟩ = some (.int .u8 a0_0) := (blk_cell BK403.out 0).trans rfl; have hcz22_1 : w21.cell? ⟨gb403, 1, none⟩ = some (.bool false) := (blk_cell BK403.out 1).trans rfl; have hcz22_2 : w21.cell? ⟨gb403, 2, none⟩ = some (.string a0_2) := (blk_cell BK403.out 2).trans rfl; have hfz22_0 := blk_frozen BK403.out 0; have hfz22_1 := blk_frozen BK403.out 1; have hfz22_2 := blk_frozen BK403.out 2) | ((with_reducible refine gate_callee (f := 128) rfl ?_); refine goesL_ (some 9) rfl rfl Try.func128 (by kernel_rfl) rfl #[.int .u8 a0_0, .int .i64 a1] rfl (by (try simp only [List.map_toArray, List.map_cons, List.map_nil]); first | done | rfl | (simp only [List.length_drop, List.length_take]; rfl)) ?_; (with_reducible refine (tripartiteref08_repeat.calls k a0_0 a1 t404 _ A3.out).mono ?_); rintro e w23 ⟨rfl, hb⟩; refine ⟨_, rfl, ?_⟩; have n0_ := Aside0.mk (blk_below (g := gb403) (o := .cells #[.int .u8 a0_0, .bool false, .string a0_2] 60 (0, 0)) (by (with_reducible repeat (first | refine blk_drewN ?_ _ | refine blk_drew ?_ | refine blk_alloc ?_ _)); exact BK403.out) hb); have n1_ := Aside0.mk (below_step (by repeat (first | (with_reducible first | exact HB.out | apply below_alloc | apply pw_below_drewN | apply below_drew1 | refine below_set ?_ GE403.out) | exact HB.out)) hb); clear BK403; clear HB; have BK403 := n0_; have HB := n1_; clear n0_ n1_; (try clear hb); (try clear hb2); (try clear hk); (try clear hi); have hcz24_0 : w23.cell? ⟨gb403, 0, none⟩ = some (.int .u8 a0_0) := (blk_cell BK403.out 0).trans rfl; have hcz24_1 : w23.cell? ⟨gb403, 1, none⟩ = some (.bool false) := (blk_cell BK403.out 1).trans rfl; have hcz24_2 : w23.cell? ⟨gb403, 2, none⟩ = some (.string a0_2) := (blk_cell BK403.out 2).trans rfl; have hfz24_0 := blk_frozen BK403.out 0; have hfz24_1 := blk_frozen BK403.out 1; have hfz24_2 := blk_frozen BK403.out 2))
        go_ret
        exact ⟨by first | rfl | (simp [errW_none, errW_some] <;> rfl) | (simp [*, errW_none, errW_some] <;> rfl), by repeat (first | (with_reducible first | exact HB.out | apply below_alloc | apply pw_below_drewN | apply below_drew1 | refine below_set ?_ GE403.out) | exact HB.out)⟩
      · rw [if_neg c20] at H
        exact absurd H (by simp)
    · rw [if_neg c19] at H
      have c19b0 : (a0_2.toList == ([] : List UInt8)) = false := beq_eq_false_iff_ne.mpr c19
      have c19b1 : (a0_2.toList != ([] : List UInt8)) = true := bne_iff_ne.mpr c19
      by_cases c25 : t404.size + 1 ≤ 9223372036854775807
      · rw [if_pos c25] at H
        have c25b0 := eq_true c25
        have c25b1 : decide (t404.size + 1 ≤ 9223372036854775807) = true := decide_eq_true c25
        try have c25b2 : (9223372036854775807 < t404.size + 1) = False := eq_false (Nat.not_lt.2 c25)
        by_cases c26 : (t404 ++ (⟨#[32]⟩ : ByteArray)).size + a0_2.size ≤ 9223372036854775807
        · rw [if_pos c26] at H
          have c26b0 := eq_true c26
          have c26b1 : decide ((t404 ++ (⟨#[32]⟩ : ByteArray)).size + a0_2.size ≤ 9223372036854775807) = true := decide_eq_true c26
          try have c26b2 : (9223372036854775807 < (t404 ++ (⟨#[32]⟩ : ByteArray)).size + a0_2.size) = False := eq_false (Nat.not_lt.2 c26)
          try have c26b3 : (9223372036854775807 < t404.size + 1 + a0_2.size) = False := eq_false (Nat.not_lt.2 (Nat.le_trans (Nat.le_of_eq (by first | rfl | (simp only [ByteArray.size_append]; done) | (simp only [ByteArray.size_append]; rfl))) c26))
          by_cases c27 : ((t404 ++ (⟨#[32]⟩ : ByteArray)) ++ a0_2).size + 1 ≤ 9223372036854775807
          · rw [if_pos c27] at H
            have c27b0 := eq_true c27
            have c27b1 : decide (((t404 ++ (⟨#[32]⟩ : ByteArray)) ++ a0_2).size + 1 ≤ 9223372036854775807) = true := decide_eq_true c27
            try have c27b2 : (9223372036854775807 < ((t404 ++ (⟨#[32]⟩ : ByteArray)) ++ a0_2).size + 1) = False := eq_false (Nat.not_lt.2 c27)
            try have c27b3 : (9223372036854775807 < t404.size + 1 + a0_2.size + 1) = False := eq_false (Nat.not_lt.2 (Nat.le_trans (Nat.le_of_eq (by first | rfl | (simp only [ByteArray.size_append]; done) | (simp only [ByteArray.size_append]; rfl))) c27))
            obtain rfl := Option.some.inj H
            go_enter Try.func94, Try.ntmps94
            go_wp2_with (first | ((with_reducible refine gate_dst (N := 2) rfl ?_); refine box_event ?hg (N := 2) ?hd (cs := #[.int .u8 a0_0, .bool false, .string a0_2]) (t := 60) ?hr ?_; (case hd => rfl); (case hg => rfl); (case hr => first | (go_simp; done) | (go_simp; rfl)); intro gb403 hg w28 hbox hb; have n0_ := Aside0.mk (below_step (by repeat (first | (with_reducible first | exact HB.out | apply below_alloc | apply pw_below_drewN | apply below_drew1) | exact HB.out)) hb); have n1_ := Aside0.mk (hbox); have n2_ := Aside0.mk ((by rw [hg]; exact (below_size (by repeat (first | (with_reducible first | exact HB.out | apply below_alloc | apply pw_below_drewN | apply below_drew1) | exact HB.out))) : w.heap.size ≤ gb403)); have n3_ := Aside0.mk ((by rw [hg]; exact (below_size (by repeat (first | (with_reducible first | exact HB.out | apply below_alloc | apply pw_below_drewN | apply below_drew1) | exact HB.out))) : w.heap.size ≤ gb403)); clear HB; have HB := n0_; have BK403 := n1_; have GW403 := n2_; have GE403 := n3_; clear n0_ n1_ n2_ n3_; clear hb hbox hg; have hcz29_0 : w28.cell? ⟨gb403, 0, none⟩ = some (.int .u8 a0_0) := (blk_cell BK403.out 0).trans rfl; have hcz29_1 : w28.cell? ⟨gb403, 1, none⟩ = some (.bool false) := (blk_cell BK403.out 1).trans rfl; have hcz29_2 : w28.cell? ⟨gb403, 2, none⟩ = some (.string a0_2) := (blk_cell BK403.out 2).trans rfl; have hfz29_0 := blk_frozen BK403.out 0; have hfz29_1 := blk_frozen BK403.out 1; have hfz29_2 := blk_frozen BK403.out 2) | ((with_reducible refine gate_callee (f := 128) rfl ?_); refine goesL_ (some 9) rfl rfl Try.func128 (by kernel_rfl) rfl #[.int .u8 a0_0, .int .i64 a1] rfl (by (try simp only [List.map_toArray, List.map_cons, List.map_nil]); first | done | rfl | (simp only [List.length_drop, List.length_take]; rfl)) ?_; (with_reducible refine (tripartiteref08_repeat.calls k a0_0 a1 t404 _ A3.out).mono ?_); rintro e w30 ⟨rfl, hb⟩; refine ⟨_, rfl, ?_⟩; have n0_ := Aside0.mk (blk_below (g := gb403) (o := .cells #[.int .u8 a0_0, .bool false, .string a0_2] 60 (0, 0)) (by (with_reducible repeat (first | refine blk_drewN ?_ _ | refine blk_drew ?_ | refine blk_alloc ?_ _)); exact BK403.out) hb); have n1_ := Aside0.mk (below_step (by repeat (first | (with_reducible first | exact HB.out | apply below_alloc | apply pw_below_drewN | apply below_drew1 | refine below_set ?_ GE403.out) | exact HB.out)) hb); clear BK403; clear HB; have BK403 := n0_; have HB := n1_; clear n0_ n1_; (try clear hb); (try clear hb2); (try clear hk); (try clear hi); have hcz31_0 : w30.cell? ⟨gb403, 0, none⟩ = some (.int .u8 a0_0) := (blk_cell BK403.out 0).trans rfl; have hcz31_1 : w30.cell? ⟨gb403, 1, none⟩ = some (.bool false) := (blk_cell BK403.out 1).trans rfl; have hcz31_2 : w30.cell? ⟨gb403, 2, none⟩ = some (.string a0_2) := (blk_cell BK403.out 2).trans rfl; have hfz31_0 := blk_frozen BK403.out 0; have hfz31_1 := blk_frozen BK403.out 1; have hfz31_2 := blk_frozen BK403.out 2))
            go_ret
            exact ⟨by first | rfl | (simp [errW_none, errW_some] <;> rfl) | (simp [*, errW_none, errW_some] <;> rfl), by repeat (first | (with_reducible first | exact HB.out | apply below_alloc | apply pw_below_drewN | apply below_drew1 | refine below_set ?_ GE403.out) | exact HB.out)⟩
          · rw [if_neg c27] at H
            exact absurd H (by simp)
        · rw [if_neg c26] at H
          exact absurd H (by simp)
      · rw [if_neg c25] at H
        exact absurd H (by simp)
end Go.Proofs.Ytfiamddinkokbaa.F
end

section
set_option linter.unusedVariables false
set_option linter.unusedSimpArgs false
namespace Go.Proofs.Ytfiamddinkokbaa.F
open Go.RowKit Go.Proofs.YtfiamddinkokbaaW.PrintWords Go.Proofs.YtfiamddinkokbaaW.PrintLast Go.Proofs.YtfiamddinkokbaaW.PrintMore
attribute [local go_sem] max2_int min2_int max_two min_two max_three min_three max_four min_four
set_option linter.unusedVariables false
set_option linter.unusedSimpArgs false
def tripartiteref08_Print.l0 : Nat → List (S109) → Int → ByteArray → Int → Option (ByteArray × Int)
  | 0, _, _, _, _ => none
  | k + 1, x0, x1, x6, x7 => if x7 < (x0.length : Int) then (if 0 ≤ x7 then (if x6.size + ((rd_T109 x0 x7).f4).size ≤ 9223372036854775807 then (if ((rd_T109 x0 x7).f3 = true) then ((tripartiteref08_side.f ((rd_T109 x0 x7).f5)).bind fun bt410 => ((tripartiteref08_side.f ((rd_T109 x0 x7).f6)).bind fun bt412 => ((tripartiteref08_side.f ((rd_T109 x0 x7).f7)).bind fun bt414 => ((tripartiteref08_line.f k 60 false ((rd_T109 x0 x7).f0) x1).bind fun t416 => (if (x6 ++ ((rd_T109 x0 x7).f4)).size + t416.size ≤ 9223372036854775807 then (if ((x6 ++ ((rd_T109 x0 x7).f4)) ++ t416).size + bt410.1.size ≤ 9223372036854775807 then (if (rd_T109 x0 x7).f8 = true then ((tripartiteref08_line.f k 124 bt410.2 ((rd_T109 x0 x7).f1) x1).bind fun t417 => (if (((x6 ++ ((rd_T109 x0 x7).f4)) ++ t416) ++ bt410.1).size + t417.size ≤ 9223372036854775807 then (if ((((x6 ++ ((rd_T109 x0 x7).f4)) ++ t416) ++ bt410.1) ++ t417).size + bt412.1.size ≤ 9223372036854775807 then ((tripartiteref08_line.f k 61 bt412.2 (⟨#[]⟩ : ByteArray) x1).bind fun t418 => (if (((((x6 ++ ((rd_T109 x0 x7).f4)) ++ t416) ++ bt410.1) ++ t417) ++ bt412.1).size + t418.size ≤ 9223372036854775807 then (if ((((((x6 ++ ((rd_T109 x0 x7).f4)) ++ t416) ++ bt410.1) ++ t417) ++ bt412.1) ++ t418).size + bt414.1.size ≤ 9223372036854775807 then ((tripartiteref08_line.f k 62 bt414.2 ((rd_T109 x0 x7).f2) x1).bind fun t419 => (if (((((((x6 ++ ((rd_T109 x0 x7).f4)) ++ t416) ++ bt410.1) ++ t417) ++ bt412.1) ++ t418) ++ bt414.1).size + t419.size ≤ 9223372036854775807 then (tripartiteref08_Print.l0 k x0 x1 ((((((((x6 ++ ((rd_T109 x0 x7).f4)) ++ t416) ++ bt410.1) ++ t417) ++ bt412.1) ++ t418) ++ bt414.1) ++ t419) (wrap64 (x7 + 1))) else (none))) else (none)) else (none))) else (none)) else (none))) else ((tripartiteref08_line.f k 61 bt410.2 (⟨#[]⟩ : ByteArray) x1).bind fun t420 => (if (((x6 ++ ((rd_T109 x0 x7).f4)) ++ t416) ++ bt410.1).size + t420.size ≤ 9223372036854775807 then (if ((((x6 ++ ((rd_T109 x0 x7).f4)) ++ t416) ++ bt410.1) ++ t420).size + bt414.1.size ≤ 9223372036854775807 then ((tripartiteref08_line.f k 62 bt414.2 ((rd_T109 x0 x7).f2) x1).bind fun t421 => (if (((((x6 ++ ((rd_T109 x0 x7).f4)) ++ t416) ++ bt410.1) ++ t420) ++ bt414.1).size + t421.size ≤ 9223372036854775807 then (tripartiteref08_Print.l0 k x0 x1 ((((((x6 ++ ((rd_T109 x0 x7).f4)) ++ t416) ++ bt410.1) ++ t420) ++ bt414.1) ++ t421) (wrap64 (x7 + 1))) else (none))) else (none)) else (none)))) else (none)) else (none)))))) else (tripartiteref08_Print.l0 k x0 x1 (x6 ++ ((rd_T109 x0 x7).f4)) (wrap64 (x7 + 1)))) else (none)) else (none)) else (some (x6, 0))
def tripartiteref08_Print.f (k : Nat) (l0 : List (S109)) (a1 : Int) : Option (ByteArray × Int) := (tripartiteref08_wide.f a1).bind fun t405 => (if t405 = true then ((tripartiteref07_Right.f k l0).bind fun t406 => (if t406 = true then ((tripartiteref07_Fits.f k l0 a1).bind fun t407 => (if t407 = true then (tripartiteref08_Print.l0 k l0 a1 (⟨#[]⟩ : ByteArray) 0) else (some ((⟨#[]⟩ : ByteArray), 4)))) else (some ((⟨#[]⟩ : ByteArray), 11)))) else (some ((⟨#[]⟩ : ByteArray), 4)))
theorem tripartiteref08_Print.mono_l : ∀ k, (∀ y0 y1 y2 y3, LeO (tripartiteref08_Print.l0 k y0 y1 y2 y3) (tripartiteref08_Print.l0 (k + 1) y0 y1 y2 y3))
  | 0 => fun _ _ _ _ r h => by simp [tripartiteref08_Print.l0] at h
  | k + 1 => by
    have ih0 := tripartiteref08_Print.mono_l k
    · intro y0 y1 y2 y3
      unfold tripartiteref08_Print.l0
      repeat' first
      | (with_reducible exact ih0 _ _ _ _)
      | (with_reducible exact tripartiteref07_Fits.mono _ _ _)
      | (with_reducible exact tripartiteref07_Right.mono _ _)
      | (with_reducible exact tripartiteref08_line.mono _ _ _ _ _)
      | (with_reducible exact LeO.refl _)
      | (with_reducible exact LeO.none _)
      | (with_reducible refine LeO.ite ?_ ?_)
      | (with_reducible refine LeO.bind ?_ (fun _ => ?_))
      | exact ih0 _ _ _ _
      | exact tripartiteref07_Fits.mono _ _ _
      | exact tripartiteref07_Right.mono _ _
      | exact tripartiteref08_line.mono _ _ _ _ _
      | exact LeO.none _
      | refine LeO.ite ?_ ?_
      | refine LeO.bind ?_ (fun _ => ?_)
theorem tripartiteref08_Print.mono : ∀ a0 a1 k, LeO (tripartiteref08_Print.f k a0 a1) (tripartiteref08_Print.f (k + 1) a0 a1) := by
  intro a0 a1 k
  have ih0 := tripartiteref08_Print.mono_l k
  unfold tripartiteref08_Print.f
  repeat' first
      | (with_reducible exact ih0 _ _ _ _)
      | (with_reducible exact tripartiteref07_Fits.mono _ _ _)
      | (with_reducible exact tripartiteref07_Right.mono _ _)
      | (with_reducible exact tripartiteref08_line.mono _ _ _ _ _)
      | (with_reducible exact LeO.refl _)
      | (with_reducible exact LeO.none _)
      | (with_reducible refine LeO.ite ?_ ?_)
      | (with_reducible refine LeO.bind ?_ (fun _ => ?_))
      | exact ih0 _ _ _ _
      | exact tripartiteref07_Fits.mono _ _ _
      | exact tripartiteref07_Right.mono _ _
      | exact tripartiteref08_line.mono _ _ _ _ _
      | exact LeO.none _
      | refine LeO.ite ?_ ?_
      | refine LeO.bind ?_ (fun _ => ?_)
def tripartiteref08_Print.T21 : Bool × List (List Nat × List Nat) := (true, [([], []), ([], []), ([1], [1]), ([], []), ([2, 3], [2, 3]), ([0, 4], [0, 4]), ([], []), ([5, 6], [5, 6]), ([], []), ([], []), ([9], [9]), ([8, 10], [8, 10]), ([], []), ([11, 12, 4], [11, 12]), ([7, 13], [7, 13]), ([14, 13, 0, 1, 2, 3, 4, 5, 6, 7, 8, 9, 10, 11, 12, 13, 14], [0, 14])])
def tripartiteref08_Print.B21 : List Nat := [0, 0, 2, 0, 14, 31, 0, 127, 0, 0, 512, 1792, 0, 7966, 16383, 32767]
theorem tripartiteref08_Print.tab21 : rtab .any (opsOf Try.f48 21) = tripartiteref08_Print.T21 := by kernel_rfl
theorem tripartiteref08_Print.bits21 : waitsOk tripartiteref08_Print.T21.2 tripartiteref08_Print.B21 = true := by kernel_rfl
set_option maxHeartbeats 8000000 in
set_option maxRecDepth 100000 in
theorem tripartiteref08_Print.calls (k : Nat) (A0 : Option Addr) (c0 : Nat) (l0 : List (S109)) (a1 : Int) (r1 : ByteArray) (r2 : Int) (w : World) (hr0 : Kd.C k109 w A0 l0.length l0) (hc0 : l0.length ≤ c0) (h : tripartiteref08_Print.f k l0 a1 = some (r1, r2)) :
    Calls Try.prog 48 #[.slice A0 l0.length c0, .int .i64 a1] w fun e w' => e = .returned (.tuple #[.string r1, .int .i64 r2]) ∧ Below w.heap.size w w' := by
  have hu109 := Try.underlying109
  have hu60 := Try.underlying60
  have HR0 := Aside0.mk hr0
  have HC0 := Aside0.mk hc0
  clear hr0 hc0
  have HB := Aside0.mk (Below.refl w.heap.size w)
  have H : ((tripartiteref08_wide.f a1).bind fun t405 => (if t405 = true then ((tripartiteref07_Right.f k l0).bind fun t406 => (if t406 = true then ((tripartiteref07_Fits.f k l0 a1).bind fun t407 => (if t407 = true then (tripartiteref08_Print.l0 k l0 a1 (⟨#[]⟩ : ByteArray) 0) else (some ((⟨#[]⟩ : ByteArray), 4)))) else (some ((⟨#[]⟩ : ByteArray), 11)))) else (some ((⟨#[]⟩ : ByteArray), 4)))) = some (r1, r2) := h
  clear h
  replace H := Option.bind_eq_some_iff.mp H
  obtain ⟨t405, A30, H⟩ := H
  replace H : (if t405 = true then ((tripartiteref07_Right.f k l0).bind fun t406 => (if t406 = true then ((tripartiteref07_Fits.f k l0 a1).bind fun t407 => (if t407 = true then (tripartiteref08_Print.l0 k l0 a1 (⟨#[]⟩ : ByteArray) 0) else (some ((⟨#[]⟩ : ByteArray), 4)))) else (some ((⟨#[]⟩ : ByteArray), 11)))) else (some ((⟨#[]⟩ : ByteArray), 4))) = some (r1, r2) := H
  have A3 := Aside0.mk A30
  clear A30
  by_cases c4 : t405 = true
  · subst c4
    have H1 : ((tripartiteref07_Right.f k l0).bind fun t406 => (if t406 = true then ((tripartiteref07_Fits.f k l0 a1).bind fun t407 => (if t407 = true then (tripartiteref08_Print.l0 k l0 a1 (⟨#[]⟩ : ByteArray) 0) else (some ((⟨#[]⟩ : ByteArray), 4)))) else (some ((⟨#[]⟩ : ByteArray), 11)))) = some (r1, r2) := by rw [if_pos rfl] at H; exact H
    clear H
    have H := H1
    clear H1
    replace H := Option.bind_eq_some_iff.mp H
    obtain ⟨t406, A50, H⟩ := H
    replace H : (if t406 = true then ((tripartiteref07_Fits.f k l0 a1).bind fun t407 => (if t407 = true then (tripartiteref08_Print.l0 k l0 a1 (⟨#[]⟩ : ByteArray) 0) else (some ((⟨#[]⟩ : ByteArray), 4)))) else (some ((⟨#[]⟩ : ByteArray), 11))) = some (r1, r2) := H
    have A5 := Aside0.mk A50
    clear A50
    by_cases c6 : t406 = true
    · subst c6
      have H1 : ((tripartiteref07_Fits.f k l0 a1).bind fun t407 => (if t407 = true then (tripartiteref08_Print.l0 k l0 a1 (⟨#[]⟩ : ByteArray) 0) else (some ((⟨#[]⟩ : ByteArray), 4)))) = some (r1, r2) := by rw [if_pos rfl] at H; exact H
      clear H
      have H := H1
      clear H1
      replace H := Option.bind_eq_some_iff.mp H
      obtain ⟨t407, A70, H⟩ := H
      replace H : (if t407 = true then (tripartiteref08_Print.l0 k l0 a1 (⟨#[]⟩ : ByteArray) 0) else (some ((⟨#[]⟩ : ByteArray), 4))) = some (r1, r2) := H
      have A7 := Aside0.mk A70
      clear A70
      by_cases c8 : t407 = true
      · subst c8
        have H1 : (tripartiteref08_Print.l0 k l0 a1 (⟨#[]⟩ : ByteArray) 0) = some (r1, r2) := by rw [if_pos rfl] at H; exact H
        clear H
        have H := H1
        clear H1
        have H' := Aside0.mk H
        clear H
        go_enter Try.func48, Try.ntmps48
        go_wp2_with (first | ((with_reducible refine gate_callee (f := 90) rfl ?_); refine goesL_ (some 16) rfl rfl Try.func90 (by kernel_rfl) rfl #[.int .i64 a1] rfl (by (try simp only [List.map_toArray, List.map_cons, List.map_nil]); first | done | rfl | (simp only [List.length_drop, List.length_take]; rfl)) ?_; (with_reducible refine (tripartiteref08_wide.calls a1 true _ A3.out).mono ?_); rintro e w' ⟨rfl, ⟨nd, rfl⟩⟩; refine ⟨_, rfl, ?_⟩) | ((with_reducible refine gate_callee (f := 91) rfl ?_); refine goesL_ (some 19) rfl rfl Try.func91 (by kernel_rfl) rfl #[.slice A0 l0.length c0] rfl (by (try simp only [List.map_toArray, List.map_cons, List.map_nil]); first | done | rfl | (simp only [List.length_drop, List.length_take]; rfl)) ?_; (with_reducible refine (tripartiteref07_Right.calls k _ _ l0 true _ ?side1 ?side2 A5.out).mono ?_); (case side1 => repeat (first | exact HR0.out | (with_reducible refine Kd.C_alloc ?_ _) | (with_reducible refine Kd.C_drewN ?_ _) | (with_reducible refine Kd.C_drew ?_))); (case side2 => exact HC0.out); rintro e w9 ⟨rfl, hb⟩; refine ⟨_, rfl, ?_⟩; have n0_ := Aside0.mk (below_step (by repeat (first | (with_reducible first | exact HB.out | apply below_alloc | apply pw_below_drewN | apply below_drew1) | exact HB.out)) hb); clear HB; have HB := n0_; clear n0_; (try clear hb); (try clear hb2); (try clear hk); (try clear hi)) | ((with_reducible refine gate_callee (f := 92) rfl ?_); refine goesL_ (some 23) rfl rfl Try.func92 (by kernel_rfl) rfl #[.slice A0 l0.length c0, .int .i64 a1] rfl (by (try simp only [List.map_toArray, List.map_cons, List.map_nil]); first | done | rfl | (simp only [List.length_drop, List.length_take]; rfl)) ?_; (with_reducible refine (tripartiteref07_Fits.calls k _ _ l0 a1 true _ ?side1 ?side2 A7.out).mono ?_); (case side1 => repeat (first | exact (Kd.C_below HR0.out HB.out) | (with_reducible refine Kd.C_alloc ?_ _) | (with_reducible refine Kd.C_drewN ?_ _) | (with_reducible refine Kd.C_drew ?_))); (case side2 => exact HC0.out); rintro e w10 ⟨rfl, hb⟩; refine ⟨_, rfl, ?_⟩; have n0_ := Aside0.mk (below_step (by repeat (first | (with_reducible first | exact HB.out | apply below_alloc | apply pw_below_drewN | apply below_drew1) | exact HB.out)) hb); clear HB; have HB := n0_; clear n0_; (try clear hb); (try clear hb2); (try clear hk); (try clear hi)))
        go_loopg [6, 7] k (fun kq v6 v7 w' => ∃ (x6_1 : ByteArray) (x7_1 : Int), v6 = .string x6_1 ∧ v7 = .int .i64 x7_1 ∧ Aside0 (tripartiteref08_Print.l0 kq l0 a1 x6_1 x7_1 = some (r1, r2)) ∧ Aside0 (kq ≤ k) ∧ Aside0 (Below w.heap.size w w'))
        case atStart => exact ⟨((⟨#[]⟩ : ByteArray)), (0), (by first | rfl | (simp; done) | (simp [*]; done)), (by first | rfl | (simp; done) | (simp [*]; done)), H', ⟨Nat.le_refl _⟩, ⟨by repeat (first | (with_reducible first | exact HB.out | apply below_alloc | apply pw_below_drewN | apply below_drew1) | exact HB.out)⟩⟩
        case round =>
          clear H'
          try clear p2
          try clear c4
          try clear c6
          try clear c8
          try clear c9
          obtain ⟨x6_1, x7_1, rfl, rfl, HA, HK1, HB⟩ := hrel
          cases gk with
          | zero => exact absurd HA.out (by simp [tripartiteref08_Print.l0])
          | succ k1 =>
            have H := HA.out
            clear HA
            simp only [tripartiteref08_Print.l0] at H
            by_cases c11 : x7_1 < (l0.length : Int)
            · rw [if_pos c11] at H
              have c11b0 : decide (x7_1 < (l0.length : Int)) = true := decide_eq_true c11
              clear c11
              by_cases c12 : 0 ≤ x7_1
              · rw [if_pos c12] at H
                have c12b0 : decide (0 ≤ x7_1) = true := decide_eq_true c12
                clear c12
                by_cases c13 : x6_1.size + ((rd_T109 l0 x7_1).f4).size ≤ 9223372036854775807
                · rw [if_pos c13] at H
                  have c13b0 := eq_true c13
                  have c13b1 : decide (x6_1.size + ((rd_T109 l0 x7_1).f4).size ≤ 9223372036854775807) = true := decide_eq_true c13
                  try have c13b2 : (9223372036854775807 < x6_1.size + ((rd_T109 l0 x7_1).f4).size) = False := eq_false (Nat.not_lt.2 c13)
                  obtain ⟨bq14, hbq14⟩ : ∃ b_ : Bool, b_ = ((rd_T109 l0 x7_1).f3) := ⟨_, rfl⟩
                  replace H : (if (bq14 = true) then ((tripartiteref08_side.f ((rd_T109 l0 x7_1).f5)).bind fun bt410 => ((tripartiteref08_side.f ((rd_T109 l0 x7_1).f6)).bind fun bt412 => ((tripartiteref08_side.f ((rd_T109 l0 x7_1).f7)).bind fun bt414 => ((tripartiteref08_line.f k1 60 false ((rd_T109 l0 x7_1).f0) a1).bind fun t416 => (if (x6_1 ++ ((rd_T109 l0 x7_1).f4)).size + t416.size ≤ 9223372036854775807 then (if ((x6_1 ++ ((rd_T109 l0 x7_1).f4)) ++ t416).size + bt410.1.size ≤ 9223372036854775807 then (if (rd_T109 l0 x7_1).f8 = true then ((tripartiteref08_line.f k1 124 bt410.2 ((rd_T109 l0 x7_1).f1) a1).bind fun t417 => (if (((x6_1 ++ ((rd_T109 l0 x7_1).f4)) ++ t416) ++ bt410.1).size + t417.size ≤ 9223372036854775807 then (if ((((x6_1 ++ ((rd_T109 l0 x7_1).f4)) ++ t416) ++ bt410.1) ++ t417).size + bt412.1.size ≤ 9223372036854775807 then ((tripartiteref08_line.f k1 61 bt412.2 (⟨#[]⟩ : ByteArray) a1).bind fun t418 => (if (((((x6_1 ++ ((rd_T109 l0 x7_1).f4)) ++ t416) ++ bt410.1) ++ t417) ++ bt412.1).size + t418.size ≤ 9223372036854775807 then (if ((((((x6_1 ++ ((rd_T109 l0 x7_1).f4)) ++ t416) ++ bt410.1) ++ t417) ++ bt412.1) ++ t418).size + bt414.1.size ≤ 9223372036854775807 then ((tripartiteref08_line.f k1 62 bt414.2 ((rd_T109 l0 x7_1).f2) a1).bind fun t419 => (if (((((((x6_1 ++ ((rd_T109 l0 x7_1).f4)) ++ t416) ++ bt410.1) ++ t417) ++ bt412.1) ++ t418) ++ bt414.1).size + t419.size ≤ 9223372036854775807 then (tripartiteref08_Print.l0 k1 l0 a1 ((((((((x6_1 ++ ((rd_T109 l0 x7_1).f4)) ++ t416) ++ bt410.1) ++ t417) ++ bt412.1) ++ t418) ++ bt414.1) ++ t419) (wrap64 (x7_1 + 1))) else (none))) else (none)) else (none))) else (none)) else (none))) else ((tripartiteref08_line.f k1 61 bt410.2 (⟨#[]⟩ : ByteArray) a1).bind fun t420 => (if (((x6_1 ++ ((rd_T109 l0 x7_1).f4)) ++ t416) ++ bt410.1).size + t420.size ≤ 9223372036854775807 then (if ((((x6_1 ++ ((rd_T109 l0 x7_1).f4)) ++ t416) ++ bt410.1) ++ t420).size + bt414.1.size ≤ 9223372036854775807 then ((tripartiteref08_line.f k1 62 bt414.2 ((rd_T109 l0 x7_1).f2) a1).bind fun t421 => (if (((((x6_1 ++ ((rd_T109 l0 x7_1).f4)) ++ t416) ++ bt410.1) ++ t420) ++ bt414.1).size + t421.size ≤ 9223372036854775807 then (tripartiteref08_Print.l0 k1 l0 a1 ((((((x6_1 ++ ((rd_T109 l0 x7_1).f4)) ++ t416) ++ bt410.1) ++ t420) ++ bt414.1) ++ t421) (wrap64 (x7_1 + 1))) else (none))) else (none)) else (none)))) else (none)) else (none)))))) else (tripartiteref08_Print.l0 k1 l0 a1 (x6_1 ++ ((rd_T109 l0 x7_1).f4)) (wrap64 (x7_1 + 1)))) = some (r1, r2) := by rw [← hbq14] at H; exact H
                  have Nbq14 := Aside0.mk hbq14
                  clear hbq14
                  by_cases c15 : (bq14 = true)
                  · subst c15
                    have H1 : ((tripartiteref08_side.f ((rd_T109 l0 x7_1).f5)).bind fun bt410 => ((tripartiteref08_side.f ((rd_T109 l0 x7_1).f6)).bind fun bt412 => ((tripartiteref08_side.f ((rd_T109 l0 x7_1).f7)).bind fun bt414 => ((tripartiteref08_line.f k1 60 false ((rd_T109 l0 x7_1).f0) a1).bind fun t416 => (if (x6_1 ++ ((rd_T109 l0 x7_1).f4)).size + t416.size ≤ 9223372036854775807 then (if ((x6_1 ++ ((rd_T109 l0 x7_1).f4)) ++ t416).size + bt410.1.size ≤ 9223372036854775807 then (if (rd_T109 l0 x7_1).f8 = true then ((tripartiteref08_line.f k1 124 bt410.2 ((rd_T109 l0 x7_1).f1) a1).bind fun t417 => (if (((x6_1 ++ ((rd_T109 l0 x7_1).f4)) ++ t416) ++ bt410.1).size + t417.size ≤ 9223372036854775807 then (if ((((x6_1 ++ ((rd_T109 l0 x7_1).f4)) ++ t416) ++ bt410.1) ++ t417).size + bt412.1.size ≤ 9223372036854775807 then ((tripartiteref08_line.f k1 61 bt412.2 (⟨#[]⟩ : ByteArray) a1).bind fun t418 => (if (((((x6_1 ++ ((rd_T109 l0 x7_1).f4)) ++ t416) ++ bt410.1) ++ t417) ++ bt412.1).size + t418.size ≤ 9223372036854775807 then (if ((((((x6_1 ++ ((rd_T109 l0 x7_1).f4)) ++ t416) ++ bt410.1) ++ t417) ++ bt412.1) ++ t418).size + bt414.1.size ≤ 9223372036854775807 then ((tripartiteref08_line.f k1 62 bt414.2 ((rd_T109 l0 x7_1).f2) a1).bind fun t419 => (if (((((((x6_1 ++ ((rd_T109 l0 x7_1).f4)) ++ t416) ++ bt410.1) ++ t417) ++ bt412.1) ++ t418) ++ bt414.1).size + t419.size ≤ 9223372036854775807 then (tripartiteref08_Print.l0 k1 l0 a1 ((((((((x6_1 ++ ((rd_T109 l0 x7_1).f4)) ++ t416) ++ bt410.1) ++ t417) ++ bt412.1) ++ t418) ++ bt414.1) ++ t419) (wrap64 (x7_1 + 1))) else (none))) else (none)) else (none))) else (none)) else (none))) else ((tripartiteref08_line.f k1 61 bt410.2 (⟨#[]⟩ : ByteArray) a1).bind fun t420 => (if (((x6_1 ++ ((rd_T109 l0 x7_1).f4)) ++ t416) ++ bt410.1).size + t420.size ≤ 9223372036854775807 then (if ((((x6_1 ++ ((rd_T109 l0 x7_1).f4)) ++ t416) ++ bt410.1) ++ t420).size + bt414.1.size ≤ 9223372036854775807 then ((tripartiteref08_line.f k1 62 bt414.2 ((rd_T109 l0 x7_1).f2) a1).bind fun t421 => (if (((((x6_1 ++ ((rd_T109 l0 x7_1).f4)) ++ t416) ++ bt410.1) ++ t420) ++ bt414.1).size + t421.size ≤ 9223372036854775807 then (tripartiteref08_Print.l0 k1 l0 a1 ((((((x6_1 ++ ((rd_T109 l0 x7_1).f4)) ++ t416) ++ bt410.1) ++ t420) ++ bt414.1) ++ t421) (wrap64 (x7_1 + 1))) else (none))) else (none)) else (none)))) else (none)) else (none)))))) = some (r1, r2) := by rw [if_pos rfl] at H; exact H
                    clear H
                    have H := H1
                    clear H1
                    replace H := Option.bind_eq_some_iff.mp H
                    obtain ⟨⟨t410, t411⟩, A160, H⟩ := H
                    replace H : ((tripartiteref08_side.f ((rd_T109 l0 x7_1).f6)).bind fun bt412 => ((tripartiteref08_side.f ((rd_T109 l0 x7_1).f7)).bind fun bt414 => ((tripartiteref08_line.f k1 60 false ((rd_T109 l0 x7_1).f0) a1).bind fun t416 => (if (x6_1 ++ ((rd_T109 l0 x7_1).f4)).size + t416.size ≤ 9223372036854775807 then (if ((x6_1 ++ ((rd_T109 l0 x7_1).f4)) ++ t416).size + t410.size ≤ 9223372036854775807 then (if (rd_T109 l0 x7_1).f8 = true then ((tripartiteref08_line.f k1 124 t411 ((rd_T109 l0 x7_1).f1) a1).bind fun t417 => (if (((x6_1 ++ ((rd_T109 l0 x7_1).f4)) ++ t416) ++ t410).size + t417.size ≤ 9223372036854775807 then (if ((((x6_1 ++ ((rd_T109 l0 x7_1).f4)) ++ t416) ++ t410) ++ t417).size + bt412.1.size ≤ 9223372036854775807 then ((tripartiteref08_line.f k1 61 bt412.2 (⟨#[]⟩ : ByteArray) a1).bind fun t418 => (if (((((x6_1 ++ ((rd_T109 l0 x7_1).f4)) ++ t416) ++ t410) ++ t417) ++ bt412.1).size + t418.size ≤ 9223372036854775807 then (if ((((((x6_1 ++ ((rd_T109 l0 x7_1).f4)) ++ t416) ++ t410) ++ t417) ++ bt412.1) ++ t418).size + bt414.1.size ≤ 9223372036854775807 then ((tripartiteref08_line.f k1 62 bt414.2 ((rd_T109 l0 x7_1).f2) a1).bind fun t419 => (if (((((((x6_1 ++ ((rd_T109 l0 x7_1).f4)) ++ t416) ++ t410) ++ t417) ++ bt412.1) ++ t418) ++ bt414.1).size + t419.size ≤ 9223372036854775807 then (tripartiteref08_Print.l0 k1 l0 a1 ((((((((x6_1 ++ ((rd_T109 l0 x7_1).f4)) ++ t416) ++ t410) ++ t417) ++ bt412.1) ++ t418) ++ bt414.1) ++ t419) (wrap64 (x7_1 + 1))) else (none))) else (none)) else (none))) else (none)) else (none))) else ((tripartiteref08_line.f k1 61 t411 (⟨#[]⟩ : ByteArray) a1).bind fun t420 => (if (((x6_1 ++ ((rd_T109 l0 x7_1).f4)) ++ t416) ++ t410).size + t420.size ≤ 9223372036854775807 then (if ((((x6_1 ++ ((rd_T109 l0 x7_1).f4)) ++ t416) ++ t410) ++ t420).size + bt414.1.size ≤ 9223372036854775807 then ((tripartiteref08_line.f k1 62 bt414.2 ((rd_T109 l0 x7_1).f2) a1).bind fun t421 => (if (((((x6_1 ++ ((rd_T109 l0 x7_1).f4)) ++ t416) ++ t410) ++ t420) ++ bt414.1).size + t421.size ≤ 9223372036854775807 then (tripartiteref08_Print.l0 k1 l0 a1 ((((((x6_1 ++ ((rd_T109 l0 x7_1).f4)) ++ t416) ++ t410) ++ t420) ++ bt414.1) ++ t421) (wrap64 (x7_1 + 1))) else (none))) else (none)) else (none)))) else (none)) else (none))))) = some (r1, r2) := H
                    have A16 := Aside0.mk A160
                    clear A160
                    replace H := Option.bind_eq_some_iff.mp H
                    obtain ⟨⟨t412, t413⟩, A170, H⟩ := H
                    replace H : ((tripartiteref08_side.f ((rd_T109 l0 x7_1).f7)).bind fun bt414 => ((tripartiteref08_line.f k1 60 false ((rd_T109 l0 x7_1).f0) a1).bind fun t416 => (if (x6_1 ++ ((rd_T109 l0 x7_1).f4)).size + t416.size ≤ 9223372036854775807 then (if ((x6_1 ++ ((rd_T109 l0 x7_1).f4)) ++ t416).size + t410.size ≤ 9223372036854775807 then (if (rd_T109 l0 x7_1).f8 = true then ((tripartiteref08_line.f k1 124 t411 ((rd_T109 l0 x7_1).f1) a1).bind fun t417 => (if (((x6_1 ++ ((rd_T109 l0 x7_1).f4)) ++ t416) ++ t410).size + t417.size ≤ 9223372036854775807 then (if ((((x6_1 ++ ((rd_T109 l0 x7_1).f4)) ++ t416) ++ t410) ++ t417).size + t412.size ≤ 9223372036854775807 then ((tripartiteref08_line.f k1 61 t413 (⟨#[]⟩ : ByteArray) a1).bind fun t418 => (if (((((x6_1 ++ ((rd_T109 l0 x7_1).f4)) ++ t416) ++ t410) ++ t417) ++ t412).size + t418.size ≤ 9223372036854775807 then (if ((((((x6_1 ++ ((rd_T109 l0 x7_1).f4)) ++ t416) ++ t410) ++ t417) ++ t412) ++ t418).size + bt414.1.size ≤ 9223372036854775807 then ((tripartiteref08_line.f k1 62 bt414.2 ((rd_T109 l0 x7_1).f2) a1).bind fun t419 => (if (((((((x6_1 ++ ((rd_T109 l0 x7_1).f4)) ++ t416) ++ t410) ++ t417) ++ t412) ++ t418) ++ bt414.1).size + t419.size ≤ 9223372036854775807 then (tripartiteref08_Print.l0 k1 l0 a1 ((((((((x6_1 ++ ((rd_T109 l0 x7_1).f4)) ++ t416) ++ t410) ++ t417) ++ t412) ++ t418) ++ bt414.1) ++ t419) (wrap64 (x7_1 + 1))) else (none))) else (none)) else (none))) else (none)) else (none))) else ((tripartiteref08_line.f k1 61 t411 (⟨#[]⟩ : ByteArray) a1).bind fun t420 => (if (((x6_1 ++ ((rd_T109 l0 x7_1).f4)) ++ t416) ++ t410).size + t420.size ≤ 9223372036854775807 then (if ((((x6_1 ++ ((rd_T109 l0 x7_1).f4)) ++ t416) ++ t410) ++ t420).size + bt414.1.size ≤ 9223372036854775807 then ((tripartiteref08_line.f k1 62 bt414.2 ((rd_T109 l0 x7_1).f2) a1).bind fun t421 => (if (((((x6_1 ++ ((rd_T109 l0 x7_1).f4)) ++ t416) ++ t410) ++ t420) ++ bt414.1).size + t421.size ≤ 9223372036854775807 then (tripartiteref08_Print.l0 k1 l0 a1 ((((((x6_1 ++ ((rd_T109 l0 x7_1).f4)) ++ t416) ++ t410) ++ t420) ++ bt414.1) ++ t421) (wrap64 (x7_1 + 1))) else (none))) else (none)) else (none)))) else (none)) else (none)))) = some (r1, r2) := H
                    have A17 := Aside0.mk A170
                    clear A170
                    replace H := Option.bind_eq_some_iff.mp H
                    obtain ⟨⟨t414, t415⟩, A180, H⟩ := H
                    replace H : ((tripartiteref08_line.f k1 60 false ((rd_T109 l0 x7_1).f0) a1).bind fun t416 => (if (x6_1 ++ ((rd_T109 l0 x7_1).f4)).size + t416.size ≤ 9223372036854775807 then (if ((x6_1 ++ ((rd_T109 l0 x7_1).f4)) ++ t416).size + t410.size ≤ 9223372036854775807 then (if (rd_T109 l0 x7_1).f8 = true then ((tripartiteref08_line.f k1 124 t411 ((rd_T109 l0 x7_1).f1) a1).bind fun t417 => (if (((x6_1 ++ ((rd_T109 l0 x7_1).f4)) ++ t416) ++ t410).size + t417.size ≤ 9223372036854775807 then (if ((((x6_1 ++ ((rd_T109 l0 x7_1).f4)) ++ t416) ++ t410) ++ t417).size + t412.size ≤ 9223372036854775807 then ((tripartiteref08_line.f k1 61 t413 (⟨#[]⟩ : ByteArray) a1).bind fun t418 => (if (((((x6_1 ++ ((rd_T109 l0 x7_1).f4)) ++ t416) ++ t410) ++ t417) ++ t412).size + t418.size ≤ 9223372036854775807 then (if ((((((x6_1 ++ ((rd_T109 l0 x7_1).f4)) ++ t416) ++ t410) ++ t417) ++ t412) ++ t418).size + t414.size ≤ 9223372036854775807 then ((tripartiteref08_line.f k1 62 t415 ((rd_T109 l0 x7_1).f2) a1).bind fun t419 => (if (((((((x6_1 ++ ((rd_T109 l0 x7_1).f4)) ++ t416) ++ t410) ++ t417) ++ t412) ++ t418) ++ t414).size + t419.size ≤ 9223372036854775807 then (tripartiteref08_Print.l0 k1 l0 a1 ((((((((x6_1 ++ ((rd_T109 l0 x7_1).f4)) ++ t416) ++ t410) ++ t417) ++ t412) ++ t418) ++ t414) ++ t419) (wrap64 (x7_1 + 1))) else (none))) else (none)) else (none))) else (none)) else (none))) else ((tripartiteref08_line.f k1 61 t411 (⟨#[]⟩ : ByteArray) a1).bind fun t420 => (if (((x6_1 ++ ((rd_T109 l0 x7_1).f4)) ++ t416) ++ t410).size + t420.size ≤ 9223372036854775807 then (if ((((x6_1 ++ ((rd_T109 l0 x7_1).f4)) ++ t416) ++ t410) ++ t420).size + t414.size ≤ 9223372036854775807 then ((tripartiteref08_line.f k1 62 t415 ((rd_T109 l0 x7_1).f2) a1).bind fun t421 => (if (((((x6_1 ++ ((rd_T109 l0 x7_1).f4)) ++ t416) ++ t410) ++ t420) ++ t414).size + t421.size ≤ 9223372036854775807 then (tripartiteref08_Print.l0 k1 l0 a1 ((((((x6_1 ++ ((rd_T109 l0 x7_1).f4)) ++ t416) ++ t410) ++ t420) ++ t414) ++ t421) (wrap64 (x7_1 + 1))) else (none))) else (none)) else (none)))) else (none)) else (none))) = some (r1, r2) := H
                    have A18 := Aside0.mk A180
                    clear A180
                    replace H := Option.bind_eq_some_iff.mp H
                    obtain ⟨t416, A190, H⟩ := H
                    replace H : (if (x6_1 ++ ((rd_T109 l0 x7_1).f4)).size + t416.size ≤ 9223372036854775807 then (if ((x6_1 ++ ((rd_T109 l0 x7_1).f4)) ++ t416).size + t410.size ≤ 9223372036854775807 then (if (rd_T109 l0 x7_1).f8 = true then ((tripartiteref08_line.f k1 124 t411 ((rd_T109 l0 x7_1).f1) a1).bind fun t417 => (if (((x6_1 ++ ((rd_T109 l0 x7_1).f4)) ++ t416) ++ t410).size + t417.size ≤ 9223372036854775807 then (if ((((x6_1 ++ ((rd_T109 l0 x7_1).f4)) ++ t416) ++ t410) ++ t417).size + t412.size ≤ 9223372036854775807 then ((tripartiteref08_line.f k1 61 t413 (⟨#[]⟩ : ByteArray) a1).bind fun t418 => (if (((((x6_1 ++ ((rd_T109 l0 x7_1).f4)) ++ t416) ++ t410) ++ t417) ++ t412).size + t418.size ≤ 9223372036854775807 then (if ((((((x6_1 ++ ((rd_T109 l0 x7_1).f4)) ++ t416) ++ t410) ++ t417) ++ t412) ++ t418).size + t414.size ≤ 9223372036854775807 then ((tripartiteref08_line.f k1 62 t415 ((rd_T109 l0 x7_1).f2) a1).bind fun t419 => (if (((((((x6_1 ++ ((rd_T109 l0 x7_1).f4)) ++ t416) ++ t410) ++ t417) ++ t412) ++ t418) ++ t414).size + t419.size ≤ 9223372036854775807 then (tripartiteref08_Print.l0 k1 l0 a1 ((((((((x6_1 ++ ((rd_T109 l0 x7_1).f4)) ++ t416) ++ t410) ++ t417) ++ t412) ++ t418) ++ t414) ++ t419) (wrap64 (x7_1 + 1))) else (none))) else (none)) else (none))) else (none)) else (none))) else ((tripartiteref08_line.f k1 61 t411 (⟨#[]⟩ : ByteArray) a1).bind fun t420 => (if (((x6_1 ++ ((rd_T109 l0 x7_1).f4)) ++ t416) ++ t410).size + t420.size ≤ 9223372036854775807 then (if ((((x6_1 ++ ((rd_T109 l0 x7_1).f4)) ++ t416) ++ t410) ++ t420).size + t414.size ≤ 9223372036854775807 then ((tripartiteref08_line.f k1 62 t415 ((rd_T109 l0 x7_1).f2) a1).bind fun t421 => (if (((((x6_1 ++ ((rd_T109 l0 x7_1).f4)) ++ t416) ++ t410) ++ t420) ++ t414).size + t421.size ≤ 9223372036854775807 then (tripartiteref08_Print.l0 k1 l0 a1 ((((((x6_1 ++ ((rd_T109 l0 x7_1).f4)) ++ t416) ++ t410) ++ t420) ++ t414) ++ t421) (wrap64 (x7_1 + 1))) else (none))) else (none)) else (none)))) else (none)) else (none)) = some (r1, r2) := H
                    have A19 := Aside0.mk A190
                    clear A190
                    by_cases c20 : (x6_1 ++ ((rd_T109 l0 x7_1).f4)).size + t416.size ≤ 9223372036854775807
                    · rw [if_pos c20] at H
                      have c20b0 := eq_true c20
                      have c20b1 : decide ((x6_1 ++ ((rd_T109 l0 x7_1).f4)).size + t416.size ≤ 9223372036854775807) = true := decide_eq_true c20
                      try have c20b2 : (9223372036854775807 < (x6_1 ++ ((rd_T109 l0 x7_1).f4)).size + t416.size) = False := eq_false (Nat.not_lt.2 c20)
                      try have c20b3 : (9223372036854775807 < x6_1.size + ((rd_T109 l0 x7_1).f4).size + t416.size) = False := eq_false (Nat.not_lt.2 (Nat.le_trans (Nat.le_of_eq (by first | rfl | (simp only [ByteArray.size_append]; done) | (simp only [ByteArray.size_append]; rfl))) c20))
                      by_cases c21 : ((x6_1 ++ ((rd_T109 l0 x7_1).f4)) ++ t416).size + t410.size ≤ 9223372036854775807
                      · rw [if_pos c21] at H
                        have c21b0 := eq_true c21
                        have c21b1 : decide (((x6_1 ++ ((rd_T109 l0 x7_1).f4)) ++ t416).size + t410.size ≤ 9223372036854775807) = true := decide_eq_true c21
                        try have c21b2 : (9223372036854775807 < ((x6_1 ++ ((rd_T109 l0 x7_1).f4)) ++ t416).size + t410.size) = False := eq_false (Nat.not_lt.2 c21)
                        try have c21b3 : (9223372036854775807 < x6_1.size + ((rd_T109 l0 x7_1).f4).size + t416.size + t410.size) = False := eq_false (Nat.not_lt.2 (Nat.le_trans (Nat.le_of_eq (by first | rfl | (simp only [ByteArray.size_append]; done) | (simp only [ByteArray.size_append]; rfl))) c21))
                        obtain ⟨bq22, hbq22⟩ : ∃ b_ : Bool, b_ = ((rd_T109 l0 x7_1).f8) := ⟨_, rfl⟩
                        replace H : (if bq22 = true then ((tripartiteref08_line.f k1 124 t411 ((rd_T109 l0 x7_1).f1) a1).bind fun t417 => (if (((x6_1 ++ ((rd_T109 l0 x7_1).f4)) ++ t416) ++ t410).size + t417.size ≤ 9223372036854775807 then (if ((((x6_1 ++ ((rd_T109 l0 x7_1).f4)) ++ t416) ++ t410) ++ t417).size + t412.size ≤ 9223372036854775807 then ((tripartiteref08_line.f k1 61 t413 (⟨#[]⟩ : ByteArray) a1).bind fun t418 => (if (((((x6_1 ++ ((rd_T109 l0 x7_1).f4)) ++ t416) ++ t410) ++ t417) ++ t412).size + t418.size ≤ 9223372036854775807 then (if ((((((x6_1 ++ ((rd_T109 l0 x7_1).f4)) ++ t416) ++ t410) ++ t417) ++ t412) ++ t418).size + t414.size ≤ 9223372036854775807 then ((tripartiteref08_line.f k1 62 t415 ((rd_T109 l0 x7_1).f2) a1).bind fun t419 => (if (((((((x6_1 ++ ((rd_T109 l0 x7_1).f4)) ++ t416) ++ t410) ++ t417) ++ t412) ++ t418) ++ t414).size + t419.size ≤ 9223372036854775807 then (tripartiteref08_Print.l0 k1 l0 a1 ((((((((x6_1 ++ ((rd_T109 l0 x7_1).f4)) ++ t416) ++ t410) ++ t417) ++ t412) ++ t418) ++ t414) ++ t419) (wrap64 (x7_1 + 1))) else (none))) else (none)) else (none))) else (none)) else (none))) else ((tripartiteref08_line.f k1 61 t411 (⟨#[]⟩ : ByteArray) a1).bind fun t420 => (if (((x6_1 ++ ((rd_T109 l0 x7_1).f4)) ++ t416) ++ t410).size + t420.size ≤ 9223372036854775807 then (if ((((x6_1 ++ ((rd_T109 l0 x7_1).f4)) ++ t416) ++ t410) ++ t420).size + t414.size ≤ 9223372036854775807 then ((tripartiteref08_line.f k1 62 t415 ((rd_T109 l0 x7_1).f2) a1).bind fun t421 => (if (((((x6_1 ++ ((rd_T109 l0 x7_1).f4)) ++ t416) ++ t410) ++ t420) ++ t414).size + t421.size ≤ 9223372036854775807 then (tripartiteref08_Print.l0 k1 l0 a1 ((((((x6_1 ++ ((rd_T109 l0 x7_1).f4)) ++ t416) ++ t410) ++ t420) ++ t414) ++ t421) (wrap64 (x7_1 + 1))) else (none))) else (none)) else (none)))) = some (r1, r2) := by rw [← hbq22] at H; exact H
                        have Nbq22 := Aside0.mk hbq22
                        clear hbq22
                        by_cases c23 : bq22 = true
                        · subst c23
                          have H1 : ((tripartiteref08_line.f k1 124 t411 ((rd_T109 l0 x7_1).f1) a1).bind fun t417 => (if (((x6_1 ++ ((rd_T109 l0 x7_1).f4)) ++ t416) ++ t410).size + t417.size ≤ 9223372036854775807 then (if ((((x6_1 ++ ((rd_T109 l0 x7_1).f4)) ++ t416) ++ t410) ++ t417).size + t412.size ≤ 9223372036854775807 then ((tripartiteref08_line.f k1 61 t413 (⟨#[]⟩ : ByteArray) a1).bind fun t418 => (if (((((x6_1 ++ ((rd_T109 l0 x7_1).f4)) ++ t416) ++ t410) ++ t417) ++ t412).size + t418.size ≤ 9223372036854775807 then (if ((((((x6_1 ++ ((rd_T109 l0 x7_1).f4)) ++ t416) ++ t410) ++ t417) ++ t412) ++ t418).size + t414.size ≤ 9223372036854775807 then ((tripartiteref08_line.f k1 62 t415 ((rd_T109 l0 x7_1).f2) a1).bind fun t419 => (if (((((((x6_1 ++ ((rd_T109 l0 x7_1).f4)) ++ t416) ++ t410) ++ t417) ++ t412) ++ t418) ++ t414).size + t419.size ≤ 9223372036854775807 then (tripartiteref08_Print.l0 k1 l0 a1 ((((((((x6_1 ++ ((rd_T109 l0 x7_1).f4)) ++ t416) ++ t410) ++ t417) ++ t412) ++ t418) ++ t414) ++ t419) (wrap64 (x7_1 + 1))) else (none))) else (none)) else (none))) else (none)) else (none))) = some (r1, r2) := by rw [if_pos rfl] at H; exact H
                          clear H
                          have H := H1
                          clear H1
                          replace H := Option.bind_eq_some_iff.mp H
                          obtain ⟨t417, A240, H⟩ := H
                          replace H : (if (((x6_1 ++ ((rd_T109 l0 x7_1).f4)) ++ t416) ++ t410).size + t417.size ≤ 9223372036854775807 then (if ((((x6_1 ++ ((rd_T109 l0 x7_1).f4)) ++ t416) ++ t410) ++ t417).size + t412.size ≤ 9223372036854775807 then ((tripartiteref08_line.f k1 61 t413 (⟨#[]⟩ : ByteArray) a1).bind fun t418 => (if (((((x6_1 ++ ((rd_T109 l0 x7_1).f4)) ++ t416) ++ t410) ++ t417) ++ t412).size + t418.size ≤ 9223372036854775807 then (if ((((((x6_1 ++ ((rd_T109 l0 x7_1).f4)) ++ t416) ++ t410) ++ t417) ++ t412) ++ t418).size + t414.size ≤ 9223372036854775807 then ((tripartiteref08_line.f k1 62 t415 ((rd_T109 l0 x7_1).f2) a1).bind fun t419 => (if (((((((x6_1 ++ ((rd_T109 l0 x7_1).f4)) ++ t416) ++ t410) ++ t417) ++ t412) ++ t418) ++ t414).size + t419.size ≤ 9223372036854775807 then (tripartiteref08_Print.l0 k1 l0 a1 ((((((((x6_1 ++ ((rd_T109 l0 x7_1).f4)) ++ t416) ++ t410) ++ t417) ++ t412) ++ t418) ++ t414) ++ t419) (wrap64 (x7_1 + 1))) else (none))) else (none)) else (none))) else (none)) else (none)) = some (r1, r2) := H
                          have A24 := Aside0.mk A240
                          clear A240
                          by_cases c25 : (((x6_1 ++ ((rd_T109 l0 x7_1).f4)) ++ t416) ++ t410).size + t417.size ≤ 9223372036854775807
                          · rw [if_pos c25] at H
                            have c25b0 := eq_true c25
                            have c25b1 : decide ((((x6_1 ++ ((rd_T109 l0 x7_1).f4)) ++ t416) ++ t410).size + t417.size ≤ 9223372036854775807) = true := decide_eq_true c25
                            try have c25b2 : (9223372036854775807 < (((x6_1 ++ ((rd_T109 l0 x7_1).f4)) ++ t416) ++ t410).size + t417.size) = False := eq_false (Nat.not_lt.2 c25)
                            try have c25b3 : (9223372036854775807 < x6_1.size + ((rd_T109 l0 x7_1).f4).size + t416.size + t410.size + t417.size) = False := eq_false (Nat.not_lt.2 (Nat.le_trans (Nat.le_of_eq (by first | rfl | (simp only [ByteArray.size_append]; done) | (simp only [ByteArray.size_append]; rfl))) c25))
                            by_cases c26 : ((((x6_1 ++ ((rd_T109 l0 x7_1).f4)) ++ t416) ++ t410) ++ t417).size + t412.size ≤ 9223372036854775807
                            · rw [if_pos c26] at H
                              have c26b0 := eq_true c26
                              have c26b1 : decide (((((x6_1 ++ ((rd_T109 l0 x7_1).f4)) ++ t416) ++ t410) ++ t417).size + t412.size ≤ 9223372036854775807) = true := decide_eq_true c26
                              try have c26b2 : (9223372036854775807 < ((((x6_1 ++ ((rd_T109 l0 x7_1).f4)) ++ t416) ++ t410) ++ t417).size + t412.size) = False := eq_false (Nat.not_lt.2 c26)
                              try have c26b3 : (9223372036854775807 < x6_1.size + ((rd_T109 l0 x7_1).f4).size + t416.size + t410.size + t417.size + t412.size) = False := eq_false (Nat.not_lt.2 (Nat.le_trans (Nat.le_of_eq (by first | rfl | (simp only [ByteArray.size_append]; done) | (simp only [ByteArray.size_append]; rfl))) c26))
                              replace H := Option.bind_eq_some_iff.mp H
                              obtain ⟨t418, A270, H⟩ := H
                              replace H : (if (((((x6_1 ++ ((rd_T109 l0 x7_1).f4)) ++ t416) ++ t410) ++ t417) ++ t412).size + t418.size ≤ 9223372036854775807 then (if ((((((x6_1 ++ ((rd_T109 l0 x7_1).f4)) ++ t416) ++ t410) ++ t417) ++ t412) ++ t418).size + t414.size ≤ 9223372036854775807 then ((tripartiteref08_line.f k1 62 t415 ((rd_T109 l0 x7_1).f2) a1).bind fun t419 => (if (((((((x6_1 ++ ((rd_T109 l0 x7_1).f4)) ++ t416) ++ t410) ++ t417) ++ t412) ++ t418) ++ t414).size + t419.size ≤ 9223372036854775807 then (tripartiteref08_Print.l0 k1 l0 a1 ((((((((x6_1 ++ ((rd_T109 l0 x7_1).f4)) ++ t416) ++ t410) ++ t417) ++ t412) ++ t418) ++ t414) ++ t419) (wrap64 (x7_1 + 1))) else (none))) else (none)) else (none)) = some (r1, r2) := H
                              have A27 := Aside0.mk A270
                              clear A270
                              by_cases c28 : (((((x6_1 ++ ((rd_T109 l0 x7_1).f4)) ++ t416) ++ t410) ++ t417) ++ t412).size + t418.size ≤ 9223372036854775807
                              · rw [if_pos c28] at H
                                have c28b0 := eq_true c28
                                have c28b1 : decide ((((((x6_1 ++ ((rd_T109 l0 x7_1).f4)) ++ t416) ++ t410) ++ t417) ++ t412).size + t418.size ≤ 9223372036854775807) = true := decide_eq_true c28
                                try have c28b2 : (9223372036854775807 < (((((x6_1 ++ ((rd_T109 l0 x7_1).f4)) ++ t416) ++ t410) ++ t417) ++ t412).size + t418.size) = False := eq_false (Nat.not_lt.2 c28)
                                try have c28b3 : (9223372036854775807 < x6_1.size + ((rd_T109 l0 x7_1).f4).size + t416.size + t410.size + t417.size + t412.size + t418.size) = False := eq_false (Nat.not_lt.2 (Nat.le_trans (Nat.le_of_eq (by first | rfl | (simp only [ByteArray.size_append]; done) | (simp only [ByteArray.size_append]; rfl))) c28))
                                by_cases c29 : ((((((x6_1 ++ ((rd_T109 l0 x7_1).f4)) ++ t416) ++ t410) ++ t417) ++ t412) ++ t418).size + t414.size ≤ 9223372036854775807
                                · rw [if_pos c29] at H
                                  have c29b0 := eq_true c29
                                  have c29b1 : decide (((((((x6_1 ++ ((rd_T109 l0 x7_1).f4)) ++ t416) ++ t410) ++ t417) ++ t412) ++ t418).size + t414.size ≤ 9223372036854775807) = true := decide_eq_true c29
                                  try have c29b2 : (9223372036854775807 < ((((((x6_1 ++ ((rd_T109 l0 x7_1).f4)) ++ t416) ++ t410) ++ t417) ++ t412) ++ t418).size + t414.size) = False := eq_false (Nat.not_lt.2 c29)
                                  try have c29b3 : (9223372036854775807 < x6_1.size + ((rd_T109 l0 x7_1).f4).size + t416.size + t410.size + t417.size + t412.size + t418.size + t414.size) = False := eq_false (Nat.not_lt.2 (Nat.le_trans (Nat.le_of_eq (by first | rfl | (simp only [ByteArray.size_append]; done) | (simp only [ByteArray.size_append]; rfl))) c29))
                                  replace H := Option.bind_eq_some_iff.mp H
                                  obtain ⟨t419, A300, H⟩ := H
                                  replace H : (if (((((((x6_1 ++ ((rd_T109 l0 x7_1).f4)) ++ t416) ++ t410) ++ t417) ++ t412) ++ t418) ++ t414).size + t419.size ≤ 9223372036854775807 then (tripartiteref08_Print.l0 k1 l0 a1 ((((((((x6_1 ++ ((rd_T109 l0 x7_1).f4)) ++ t416) ++ t410) ++ t417) ++ t412) ++ t418) ++ t414) ++ t419) (wrap64 (x7_1 + 1))) else (none)) = some (r1, r2) := H
                                  have A30 := Aside0.mk A300
                                  clear A300
                                  by_cases c31 : (((((((x6_1 ++ ((rd_T109 l0 x7_1).f4)) ++ t416) ++ t410) ++ t417) ++ t412) ++ t418) ++ t414).size + t419.size ≤ 9223372036854775807
                                  · rw [if_pos c31] at H
                                    have c31b0 := eq_true c31
                                    have c31b1 : decide ((((((((x6_1 ++ ((rd_T109 l0 x7_1).f4)) ++ t416) ++ t410) ++ t417) ++ t412) ++ t418) ++ t414).size + t419.size ≤ 9223372036854775807) = true := decide_eq_true c31
                                    try have c31b2 : (9223372036854775807 < (((((((x6_1 ++ ((rd_T109 l0 x7_1).f4)) ++ t416) ++ t410) ++ t417) ++ t412) ++ t418) ++ t414).size + t419.size) = False := eq_false (Nat.not_lt.2 c31)
                                    try have c31b3 : (9223372036854775807 < x6_1.size + ((rd_T109 l0 x7_1).f4).size + t416.size + t410.size + t417.size + t412.size + t418.size + t414.size + t419.size) = False := eq_false (Nat.not_lt.2 (Nat.le_trans (Nat.le_of_eq (by first | rfl | (simp only [ByteArray.size_append]; done) | (simp only [ByteArray.size_append]; rfl))) c31))
                                    have H' := Aside0.mk H
                                    clear H
                                    have p408 : 0 ≤ (x7_1 : Int) := of_decide_eq_true (by first | (with_reducible assumption) | assumption)
                                    have q408 : x7_1 < (l0.length : Int) := of_decide_eq_true (by first | (with_reducible assumption) | assumption)
                                    obtain ⟨ad408, e408, hx408_0, hx408_1, hx408_2, hx408_3, hx408_4, hx408_5, hx408_6, hx408_7, hx408_8⟩ := at_T109 HR0.out x7_1 p408 q408
                                    (try rw [← Nbq14.out] at hx408_3)
                                    (try rw [← Nbq22.out] at hx408_3)
                                    (try rw [← Nbq14.out] at hx408_8)
                                    (try rw [← Nbq22.out] at hx408_8)
                                    cases e408
                                    replace hx408_0 := (HB.out.cell (World.block_lt_of_cell? w _ hx408_0)).trans hx408_0
                                    replace hx408_1 := (HB.out.cell (World.block_lt_of_cell? w _ hx408_1)).trans hx408_1
                                    replace hx408_2 := (HB.out.cell (World.block_lt_of_cell? w _ hx408_2)).trans hx408_2
                                    replace hx408_3 := (HB.out.cell (World.block_lt_of_cell? w _ hx408_3)).trans hx408_3
                                    replace hx408_4 := (HB.out.cell (World.block_lt_of_cell? w _ hx408_4)).trans hx408_4
                                    replace hx408_5 := (HB.out.cell (World.block_lt_of_cell? w _ hx408_5)).trans hx408_5
                                    replace hx408_6 := (HB.out.cell (World.block_lt_of_cell? w _ hx408_6)).trans hx408_6
                                    replace hx408_7 := (HB.out.cell (World.block_lt_of_cell? w _ hx408_7)).trans hx408_7
                                    replace hx408_8 := (HB.out.cell (World.block_lt_of_cell? w _ hx408_8)).trans hx408_8
                                    replace p408 := eq_true p408
                                    replace q408 := eq_true q408
                                    try go_wp2_with (first | ((with_reducible refine gate_dst (N := 8) rfl ?_); refine box_event ?hg (N := 8) ?hd (cs := #[.string (⟨#[]⟩ : ByteArray), .string (⟨#[]⟩ : ByteArray), .string (⟨#[]⟩ : ByteArray), .bool false, .string (⟨#[]⟩ : ByteArray), .string (⟨#[]⟩ : ByteArray), .string (⟨#[]⟩ : ByteArray), .string (⟨#[]⟩ : ByteArray), .bool false]) (t := 109) ?hr ?_; (case hd => rfl); (case hg => rfl); (case hr => first | (go_simp; done) | (go_simp; rfl)); intro gb409 hg w32 hbox hb; have n0_ := Aside0.mk (below_step (by repeat (first | (with_reducible first | exact HB.out | apply below_alloc | apply pw_below_drewN | apply below_drew1) | exact HB.out)) hb); have n1_ := Aside0.mk (hbox); have n2_ := Aside0.mk ((by rw [hg]; exact (below_size (by repeat (first | (with_reducible first | exact HB.out | apply below_alloc | apply pw_below_drewN | apply below_drew1) | exact HB.out))) : w.heap.size ≤ gb409)); have n3_ := Aside0.mk ((by rw [hg]; exact (below_size (by repeat (first | (with_reducible first | exact HB.out | apply below_alloc | apply pw_below_drewN | apply below_drew1) | exact HB.out))) : w.heap.size ≤ gb409)); clear HB; have HB := n0_; have BK409 := n1_; have GW409 := n2_; have GE409 := n3_; clear n0_ n1_ n2_ n3_; clear hb hbox hg; have hcz33_0 : w32.cell? ⟨gb409, 0, none⟩ = some (.string (⟨#[]⟩ : ByteArray)) := (blk_cell BK409.out 0).trans rfl; have hcz33_1 : w32.cell? ⟨gb409, 1, none⟩ = some (.string (⟨#[]⟩ : ByteArray)) := (blk_cell BK409.out 1).trans rfl; have hcz33_2 : w32.cell? ⟨gb409, 2, none⟩ = some (.string (⟨#[]⟩ : ByteArray)) := (blk_cell BK409.out 2).trans rfl; have hcz33_3 : w32.cell? ⟨gb409, 3, none⟩ = some (.bool false) := (blk_cell BK409.out 3).trans rfl; have hcz33_4 : w32.cell? ⟨gb409, 4, none⟩ = some (.string (⟨#[]⟩ : ByteArray)) := (blk_cell BK409.out 4).trans rfl; have hcz33_5 : w32.cell? ⟨gb409, 5, none⟩ = some (.string (⟨#[]⟩ : ByteArray)) := (blk_cell BK409.out 5).trans rfl; have hcz33_6 : w32.cell? ⟨gb409, 6, none⟩ = some (.string (⟨#[]⟩ : ByteArray)) := (blk_cell BK409.out 6).trans rfl; have hcz33_7 : w32.cell? ⟨gb409, 7, none⟩ = some (.string (⟨#[]⟩ : ByteArray)) := (blk_cell BK409.out 7).trans rfl; have hcz33_8 : w32.cell? ⟨gb409, 8, none⟩ = some (.bool false) := (blk_cell BK409.out 8).trans rfl; have hfz33_0 := blk_frozen BK409.out 0; have hfz33_1 := blk_frozen BK409.out 1; have hfz33_2 := blk_frozen BK409.out 2; have hfz33_3 := blk_frozen BK409.out 3; have hfz33_4 := blk_frozen BK409.out 4; have hfz33_5 := blk_frozen BK409.out 5; have hfz33_6 := blk_frozen BK409.out 6; have hfz33_7 := blk_frozen BK409.out 7; have hfz33_8 := blk_frozen BK409.out 8) | ((with_reducible refine gate_callee (f := 93) rfl ?_); refine goesL_ (some 45) rfl rfl Try.func93 (by kernel_rfl) rfl #[.string ((rd_T109 l0 x7_1).f5)] rfl (by (try simp only [List.map_toArray, List.map_cons, List.map_nil]); first | done | rfl | (simp only [List.length_drop, List.length_take]; rfl)) ?_; (with_reducible refine (tripartiteref08_side.calls ((rd_T109 l0 x7_1).f5) t410 t411 _ A16.out).mono ?_); rintro e w' ⟨rfl, ⟨nd, rfl⟩⟩; refine ⟨_, rfl, ?_⟩) | ((with_reducible refine gate_callee (f := 93) rfl ?_); refine goesL_ (some 51) rfl rfl Try.func93 (by kernel_rfl) rfl #[.string ((rd_T109 l0 x7_1).f6)] rfl (by (try simp only [List.map_toArray, List.map_cons, List.map_nil]); first | done | rfl | (simp only [List.length_drop, List.length_take]; rfl)) ?_; (with_reducible refine (tripartiteref08_side.calls ((rd_T109 l0 x7_1).f6) t412 t413 _ A17.out).mono ?_); rintro e w' ⟨rfl, ⟨nd, rfl⟩⟩; refine ⟨_, rfl, ?_⟩) | ((with_reducible refine gate_callee (f := 93) rfl ?_); refine goesL_ (some 57) rfl rfl Try.func93 (by kernel_rfl) rfl #[.string ((rd_T109 l0 x7_1).f7)] rfl (by (try simp only [List.map_toArray, List.map_cons, List.map_nil]); first | done | rfl | (simp only [List.length_drop, List.length_take]; rfl)) ?_; (with_reducible refine (tripartiteref08_side.calls ((rd_T109 l0 x7_1).f7) t414 t415 _ A18.out).mono ?_); rintro e w' ⟨rfl, ⟨nd, rfl⟩⟩; refine ⟨_, rfl, ?_⟩) | ((with_reducible refine gate_callee (f := 94) rfl ?_); refine goesL_ (some 65) rfl rfl Try.func94 (by kernel_rfl) rfl #[.agg #[.int .u8 60, .bool false, .string ((rd_T109 l0 x7_1).f0)], .int .i64 a1] rfl (by (try simp only [List.map_toArray, List.map_cons, List.map_nil]); first | done | rfl | (simp only [List.length_drop, List.length_take]; rfl)) ?_; (with_reducible refine (tripartiteref08_line.calls k1 60 false ((rd_T109 l0 x7_1).f0) a1 t416 _ A19.out).mono ?_); rintro e w34 ⟨rfl, hb⟩; refine ⟨_, rfl, ?_⟩; have n0_ := Aside0.mk (blk_below (g := gb409) (o := .cells #[.string ((rd_T109 l0 x7_1).f0), .string ((rd_T109 l0 x7_1).f1), .string ((rd_T109 l0 x7_1).f2), .bool true, .string ((rd_T109 l0 x7_1).f4), .string ((rd_T109 l0 x7_1).f5), .string ((rd_T109 l0 x7_1).f6), .string ((rd_T109 l0 x7_1).f7), .bool true] 109 (0, 0)) (by (with_reducible repeat (first | refine blk_drewN ?_ _ | refine blk_drew ?_ | refine blk_alloc ?_ _)); refine blk_put (cs := #[.string ((rd_T109 l0 x7_1).f0), .string ((rd_T109 l0 x7_1).f1), .string ((rd_T109 l0 x7_1).f2), .bool true, .string ((rd_T109 l0 x7_1).f4), .string ((rd_T109 l0 x7_1).f5), .string ((rd_T109 l0 x7_1).f6), .string ((rd_T109 l0 x7_1).f7), .bool false]) ?_ 8 _ rfl; (with_reducible repeat (first | refine blk_drewN ?_ _ | refine blk_drew ?_ | refine blk_alloc ?_ _)); refine blk_put (cs := #[.string ((rd_T109 l0 x7_1).f0), .string ((rd_T109 l0 x7_1).f1), .string ((rd_T109 l0 x7_1).f2), .bool true, .string ((rd_T109 l0 x7_1).f4), .string ((rd_T109 l0 x7_1).f5), .string ((rd_T109 l0 x7_1).f6), .string (⟨#[]⟩ : ByteArray), .bool false]) ?_ 7 _ rfl; (with_reducible repeat (first | refine blk_drewN ?_ _ | refine blk_drew ?_ | refine blk_alloc ?_ _)); refine blk_put (cs := #[.string ((rd_T109 l0 x7_1).f0), .string ((rd_T109 l0 x7_1).f1), .string ((rd_T109 l0 x7_1).f2), .bool true, .string ((rd_T109 l0 x7_1).f4), .string ((rd_T109 l0 x7_1).f5), .string (⟨#[]⟩ : ByteArray), .string (⟨#[]⟩ : ByteArray), .bool false]) ?_ 6 _ rfl; (with_reducible repeat (first | refine blk_drewN ?_ _ | refine blk_drew ?_ | refine blk_alloc ?_ _)); refine blk_put (cs := #[.string ((rd_T109 l0 x7_1).f0), .string ((rd_T109 l0 x7_1).f1), .string ((rd_T109 l0 x7_1).f2), .bool true, .string ((rd_T109 l0 x7_1).f4), .string (⟨#[]⟩ : ByteArray), .string (⟨#[]⟩ : ByteArray), .string (⟨#[]⟩ : ByteArray), .bool false]) ?_ 5 _ rfl; (with_reducible repeat (first | refine blk_drewN ?_ _ | refine blk_drew ?_ | refine blk_alloc ?_ _)); refine blk_put (cs := #[.string ((rd_T109 l0 x7_1).f0), .string ((rd_T109 l0 x7_1).f1), .string ((rd_T109 l0 x7_1).f2), .bool true, .string (⟨#[]⟩ : ByteArray), .string (⟨#[]⟩ : ByteArray), .string (⟨#[]⟩ : ByteArray), .string (⟨#[]⟩ : ByteArray), .bool false]) ?_ 4 _ rfl; (with_reducible repeat (first | refine blk_drewN ?_ _ | refine blk_drew ?_ | refine blk_alloc ?_ _)); refine blk_put (cs := #[.string ((rd_T109 l0 x7_1).f0), .string ((rd_T109 l0 x7_1).f1), .string ((rd_T109 l0 x7_1).f2), .bool false, .string (⟨#[]⟩ : ByteArray), .string (⟨#[]⟩ : ByteArray), .string (⟨#[]⟩ : ByteArray), .string (⟨#[]⟩ : ByteArray), .bool false]) ?_ 3 _ rfl; (with_reducible repeat (first | refine blk_drewN ?_ _ | refine blk_drew ?_ | refine blk_alloc ?_ _)); refine blk_put (cs := #[.string ((rd_T109 l0 x7_1).f0), .string ((rd_T109 l0 x7_1).f1), .string (⟨#[]⟩ : ByteArray), .bool false, .string (⟨#[]⟩ : ByteArray), .string (⟨#[]⟩ : ByteArray), .string (⟨#[]⟩ : ByteArray), .string (⟨#[]⟩ : ByteArray), .bool false]) ?_ 2 _ rfl; (with_reducible repeat (first | refine blk_drewN ?_ _ | refine blk_drew ?_ | refine blk_alloc ?_ _)); refine blk_put (cs := #[.string ((rd_T109 l0 x7_1).f0), .string (⟨#[]⟩ : ByteArray), .string (⟨#[]⟩ : ByteArray), .bool false, .string (⟨#[]⟩ : ByteArray), .string (⟨#[]⟩ : ByteArray), .string (⟨#[]⟩ : ByteArray), .string (⟨#[]⟩ : ByteArray), .bool false]) ?_ 1 _ rfl; (with_reducible repeat (first | refine blk_drewN ?_ _ | refine blk_drew ?_ | refine blk_alloc ?_ _)); refine blk_put (cs := #[.string (⟨#[]⟩ : ByteArray), .string (⟨#[]⟩ : ByteArray), .string (⟨#[]⟩ : ByteArray), .bool false, .string (⟨#[]⟩ : ByteArray), .string (⟨#[]⟩ : ByteArray), .string (⟨#[]⟩ : ByteArray), .string (⟨#[]⟩ : ByteArray), .bool false]) ?_ 0 _ rfl; (with_reducible repeat (first | refine blk_drewN ?_ _ | refine blk_drew ?_ | refine blk_alloc ?_ _)); exact BK409.out) hb); have n1_ := Aside0.mk (below_step (by repeat (first | (with_reducible first | exact HB.out | apply below_alloc | apply pw_below_drewN | apply below_drew1 | refine below_set ?_ GE409.out) | exact HB.out)) hb); clear BK409; clear HB; have BK409 := n0_; have HB := n1_; clear n0_ n1_; (try clear hb); (try clear hb2); (try clear hk); (try clear hi); have hcz35_0 : w34.cell? ⟨gb409, 0, none⟩ = some (.string ((rd_T109 l0 x7_1).f0)) := (blk_cell BK409.out 0).trans rfl; have hcz35_1 : w34.cell? ⟨gb409, 1, none⟩ = some (.string ((rd_T109 l0 x7_1).f1)) := (blk_cell BK409.out 1).trans rfl; have hcz35_2 : w34.cell? ⟨gb409, 2, none⟩ = some (.string ((rd_T109 l0 x7_1).f2)) := (blk_cell BK409.out 2).trans rfl; have hcz35_3 : w34.cell? ⟨gb409, 3, none⟩ = some (.bool true) := (blk_cell BK409.out 3).trans rfl; have hcz35_4 : w34.cell? ⟨gb409, 4, none⟩ = some (.string ((rd_T109 l0 x7_1).f4)) := (blk_cell BK409.out 4).trans rfl; have hcz35_5 : w34.cell? ⟨gb409, 5, none⟩ = some (.string ((rd_T109 l0 x7_1).f5)) := (blk_cell BK409.out 5).trans rfl; have hcz35_6 : w34.cell? ⟨gb409, 6, none⟩ = some (.string ((rd_T109 l0 x7_1).f6)) := (blk_cell BK409.out 6).trans rfl; have hcz35_7 : w34.cell? ⟨gb409, 7, none⟩ = some (.string ((rd_T109 l0 x7_1).f7)) := (blk_cell BK409.out 7).trans rfl; have hcz35_8 : w34.cell? ⟨gb409, 8, none⟩ = some (.bool true) := (blk_cell BK409.out 8).trans rfl; have hfz35_0 := blk_frozen BK409.out 0; have hfz35_1 := blk_frozen BK409.out 1; have hfz35_2 := blk_frozen BK409.out 2; have hfz35_3 := blk_frozen BK409.out 3; have hfz35_4 := blk_frozen BK409.out 4; have hfz35_5 := blk_frozen BK409.out 5; have hfz35_6 := blk_frozen BK409.out 6; have hfz35_7 := blk_frozen BK409.out 7; have hfz35_8 := blk_frozen BK409.out 8) | ((with_reducible refine gate_callee (f := 94) rfl ?_); refine goesL_ (some 77) rfl rfl Try.func94 (by kernel_rfl) rfl #[.agg #[.int .u8 124, .bool t411, .string ((rd_T109 l0 x7_1).f1)], .int .i64 a1] rfl (by (try simp only [List.map_toArray, List.map_cons, List.map_nil]); first | done | rfl | (simp only [List.length_drop, List.length_take]; rfl)) ?_; (with_reducible refine (tripartiteref08_line.calls k1 124 t411 ((rd_T109 l0 x7_1).f1) a1 t417 _ A24.out).mono ?_); rintro e w36 ⟨rfl, hb⟩; refine ⟨_, rfl, ?_⟩; have n0_ := Aside0.mk (blk_below (g := gb409) (o := .cells #[.string ((rd_T109 l0 x7_1).f0), .string ((rd_T109 l0 x7_1).f1), .string ((rd_T109 l0 x7_1).f2), .bool true, .string ((rd_T109 l0 x7_1).f4), .string ((rd_T109 l0 x7_1).f5), .string ((rd_T109 l0 x7_1).f6), .string ((rd_T109 l0 x7_1).f7), .bool true] 109 (0, 0)) (by (with_reducible repeat (first | refine blk_drewN ?_ _ | refine blk_drew ?_ | refine blk_alloc ?_ _)); exact BK409.out) hb); have n1_ := Aside0.mk (below_step (by repeat (first | (with_reducible first | exact HB.out | apply below_alloc | apply pw_below_drewN | apply below_drew1 | refine below_set ?_ GE409.out) | exact HB.out)) hb); clear BK409; clear HB; have BK409 := n0_; have HB := n1_; clear n0_ n1_; (try clear hb); (try clear hb2); (try clear hk); (try clear hi)))
                                    have n0_ := Aside0.mk (blk_drew BK409.out)
                                    have n1_ := Aside0.mk (below_drew1 HB.out)
                                    clear BK409
                                    clear HB
                                    have BK409 := n0_
                                    have HB := n1_
                                    clear n0_ n1_
                                    refine start_ (n := 16) (S := fun w' => w'.cell? ⟨gb409, 0, none⟩ = some (.string ((rd_T109 l0 x7_1).f0)) ∧ w'.cell? ⟨gb409, 1, none⟩ = some (.string ((rd_T109 l0 x7_1).f1)) ∧ w'.cell? ⟨gb409, 2, none⟩ = some (.string ((rd_T109 l0 x7_1).f2)) ∧ w'.cell? ⟨gb409, 3, none⟩ = some (.bool true) ∧ w'.cell? ⟨gb409, 4, none⟩ = some (.string ((rd_T109 l0 x7_1).f4)) ∧ w'.cell? ⟨gb409, 5, none⟩ = some (.string ((rd_T109 l0 x7_1).f5)) ∧ w'.cell? ⟨gb409, 6, none⟩ = some (.string ((rd_T109 l0 x7_1).f6)) ∧ w'.cell? ⟨gb409, 7, none⟩ = some (.string ((rd_T109 l0 x7_1).f7)) ∧ w'.cell? ⟨gb409, 8, none⟩ = some (.bool true)) (ds := []) #[false, false, false, false, false, false, false, false, false, false, false, false, false, false, false, false] (by kernel_rfl) rfl rfl ⟨(blk_cell BK409.out 0).trans rfl, (blk_cell BK409.out 1).trans rfl, (blk_cell BK409.out 2).trans rfl, (blk_cell BK409.out 3).trans rfl, (blk_cell BK409.out 4).trans rfl, (blk_cell BK409.out 5).trans rfl, (blk_cell BK409.out 6).trans rfl, (blk_cell BK409.out 7).trans rfl, (blk_cell BK409.out 8).trans rfl⟩ (fun hHeld => ?_); refine with_tabW tripartiteref08_Print.tab21 tripartiteref08_Print.bits21 (fun HT_ HW_ => ?_)
                                    generalize w36.drew = w37 at BK409 HB hHeld ⊢
                                    refine pure_ (i := 0) (N := some 82) (v := ?_) (a' := ?_) #[true, false, false, false, false, false, false, false, false, false, false, false, false, false, false, false] rfl rfl (any_of HT_.out (by kernel_rfl)) (fun _ _ _ h => h) (Or.inl ⟨by rfl, ?_⟩) ?_ ?_
                                    rotate_left
                                    · intro w'
                                      go_simp
                                      with_reducible rfl
                                    rotate_left
                                    · simp only [Act.put, List.setIfInBounds_toArray, List.set_cons_zero, List.set_cons_succ, i64_w, i32_w]
                                      rfl
                                    refine pure_ (i := 1) (N := some 83) (v := ?_) (a' := ?_) #[true, true, false, false, false, false, false, false, false, false, false, false, false, false, false, false] rfl rfl (any_of HT_.out (by kernel_rfl)) (fun _ _ _ h => h) (Or.inl ⟨by rfl, ?_⟩) ?_ ?_
                                    rotate_left
                                    · intro w'
                                      go_simp
                                      with_reducible rfl
                                    rotate_left
                                    · simp only [Act.put, List.setIfInBounds_toArray, List.set_cons_zero, List.set_cons_succ, i64_w, i32_w]
                                      rfl
                                    refine pure_ (i := 2) (N := some 84) (v := ?_) (a' := ?_) #[true, true, true, false, false, false, false, false, false, false, false, false, false, false, false, false] rfl rfl (any_of HT_.out (by kernel_rfl)) (fun _ _ _ h => h) (Or.inl ⟨by rfl, ?_⟩) ?_ ?_
                                    rotate_left
                                    · intro w'
                                      go_simp
                                      with_reducible rfl
                                    rotate_left
                                    · simp only [Act.put, List.setIfInBounds_toArray, List.set_cons_zero, List.set_cons_succ, i64_w, i32_w]
                                      rfl
                                    refine pure_ (i := 3) (N := some 85) (v := ?_) (a' := ?_) #[true, true, true, true, false, false, false, false, false, false, false, false, false, false, false, false] rfl rfl (any_of HT_.out (by kernel_rfl)) (fun _ _ _ h => h) (Or.inl ⟨by rfl, ?_⟩) ?_ ?_
                                    rotate_left
                                    · intro w'
                                      go_simp
                                      with_reducible rfl
                                    rotate_left
                                    · simp only [Act.put, List.setIfInBounds_toArray, List.set_cons_zero, List.set_cons_succ, i64_w, i32_w]
                                      rfl
                                    refine pure_ (i := 6) (N := some 88) (v := ?_) (a' := ?_) #[true, true, true, true, false, false, true, false, false, false, false, false, false, false, false, false] rfl rfl (any_of HT_.out (by kernel_rfl)) (fun _ _ _ h => h) (Or.inl ⟨by rfl, ?_⟩) ?_ ?_
                                    rotate_left
                                    · intro w'
                                      go_simp
                                      with_reducible rfl
                                    rotate_left
                                    · simp only [Act.put, List.setIfInBounds_toArray, List.set_cons_zero, List.set_cons_succ, i64_w, i32_w]
                                      rfl
                                    refine pure_ (i := 8) (N := some 90) (v := ?_) (a' := ?_) #[true, true, true, true, false, false, true, false, true, false, false, false, false, false, false, false] rfl rfl (any_of HT_.out (by kernel_rfl)) (fun _ _ _ h => h) (Or.inl ⟨by rfl, ?_⟩) ?_ ?_
                                    rotate_left
                                    · intro w'
                                      go_simp
                                      with_reducible rfl
                                    rotate_left
                                    · simp only [Act.put, List.setIfInBounds_toArray, List.set_cons_zero, List.set_cons_succ, i64_w, i32_w]
                                      rfl
                                    refine pure_ (i := 9) (N := some 91) (v := ?_) (a' := ?_) #[true, true, true, true, false, false, true, false, true, true, false, false, false, false, false, false] rfl rfl (any_of HT_.out (by kernel_rfl)) (fun _ _ _ h => h) (Or.inl ⟨by rfl, ?_⟩) ?_ ?_
                                    rotate_left
                                    · intro w'
                                      go_simp
                                      with_reducible rfl
                                    rotate_left
                                    · simp only [Act.put, List.setIfInBounds_toArray, List.set_cons_zero, List.set_cons_succ, i64_w, i32_w]
                                      rfl
                                    refine pure_ (i := 12) (N := some 94) (v := ?_) (a' := ?_) #[true, true, true, true, false, false, true, false, true, true, false, false, true, false, false, false] rfl rfl (any_of HT_.out (by kernel_rfl)) (fun _ _ _ h => h) (Or.inl ⟨by rfl, ?_⟩) ?_ ?_
                                    rotate_left
                                    · intro w'
                                      go_simp
                                      with_reducible rfl
                                    rotate_left
                                    · simp only [Act.put, List.setIfInBounds_toArray, List.set_cons_zero, List.set_cons_succ, i64_w, i32_w]
                                      rfl
                                    refine take_ (i := 10) (N := some 92) (v := ?_) (a' := ?_) #[true, true, true, true, false, false, true, false, true, true, true, false, true, false, false, false] rfl rfl (take_ofW HT_.out HW_.out (by kernel_rfl)) (fun _ _ _ h => h) (Or.inl ⟨by rfl, ?_⟩) hHeld ?_ ?_
                                    rotate_left
                                    · rintro w' ⟨s0, s1, s2, s3, s4, s5, s6, s7, s8⟩
                                      go_simp
                                      with_reducible rfl
                                    rotate_left
                                    · simp only [Act.put, List.setIfInBounds_toArray, List.set_cons_zero, List.set_cons_succ, i64_w, i32_w]
                                      rfl
                                    refine pure_ (i := 11) (N := some 93) (v := ?_) (a' := ?_) #[true, true, true, true, false, false, true, false, true, true, true, true, true, false, false, false] rfl rfl (any_of HT_.out (by kernel_rfl)) (fun _ _ _ h => h) (Or.inl ⟨by rfl, ?_⟩) ?_ ?_
                                    rotate_left
                                    · intro w'
                                      go_simp
                                      with_reducible rfl
                                    rotate_left
                                    · simp only [Act.put, List.setIfInBounds_toArray, List.set_cons_zero, List.set_cons_succ, i64_w, i32_w]
                                      rfl
                                    refine one_ (i := 4) (N := some 86) #[true, true, true, true, true, false, true, false, true, true, true, true, true, false, false, false] rfl rfl (one_of HT_.out (by kernel_rfl)) (by decide) (fun K hK => ?_)
                                    refine goes_ Try.func94 (by kernel_rfl) rfl #[.agg #[.int .u8 61, .bool t413, .string (⟨#[]⟩ : ByteArray)], .int .i64 a1] (by rfl) rfl rfl (by (try simp only [List.map_toArray, List.map_cons, List.map_nil]); first | done | rfl | (simp only [List.length_drop, List.length_take]; rfl)) ?_
                                    with_reducible refine (tripartiteref08_line.calls k1 61 t413 (⟨#[]⟩ : ByteArray) a1 t418 _ A27.out).mono ?_
                                    rintro e w38 ⟨rfl, hb⟩
                                    refine ⟨_, rfl, ?_⟩
                                    have n0_ := Aside0.mk (blk_below (g := gb409) (o := .cells #[.string ((rd_T109 l0 x7_1).f0), .string ((rd_T109 l0 x7_1).f1), .string ((rd_T109 l0 x7_1).f2), .bool true, .string ((rd_T109 l0 x7_1).f4), .string ((rd_T109 l0 x7_1).f5), .string ((rd_T109 l0 x7_1).f6), .string ((rd_T109 l0 x7_1).f7), .bool true] 109 (0, 0)) (by (with_reducible repeat (first | refine blk_drewN ?_ _ | refine blk_drew ?_ | refine blk_alloc ?_ _)); exact BK409.out) hb)
                                    have n1_ := Aside0.mk (below_step (by repeat (first | (with_reducible first | exact HB.out | apply below_alloc | apply pw_below_drewN | apply below_drew1 | refine below_set ?_ GE409.out) | exact HB.out)) hb)
                                    clear BK409
                                    clear HB
                                    have BK409 := n0_
                                    have HB := n1_
                                    clear n0_ n1_
                                    (try clear hb)
                                    (try clear hb2)
                                    (try clear hk)
                                    (try clear hi)
                                    refine hK.out _ _ ⟨(blk_cell BK409.out 0).trans rfl, (blk_cell BK409.out 1).trans rfl, (blk_cell BK409.out 2).trans rfl, (blk_cell BK409.out 3).trans rfl, (blk_cell BK409.out 4).trans rfl, (blk_cell BK409.out 5).trans rfl, (blk_cell BK409.out 6).trans rfl, (blk_cell BK409.out 7).trans rfl, (blk_cell BK409.out 8).trans rfl⟩ (fun hHeld => ?_)
                                    clear hK K
                                    refine norm_ (a' := ?_) ?_ ?_
                                    rotate_left
                                    · show Act.put _ (some 86) _ = _
                                      simp only [Act.put, List.setIfInBounds_toArray, List.set_cons_zero, List.set_cons_succ, i64_w, i32_w]
                                      rfl
                                    refine pure_ (i := 5) (N := some 87) (v := ?_) (a' := ?_) #[true, true, true, true, true, true, true, false, true, true, true, true, true, false, false, false] rfl rfl (any_of HT_.out (by kernel_rfl)) (fun _ _ _ h => h) (Or.inl ⟨by rfl, ?_⟩) ?_ ?_
                                    rotate_left
                                    · intro w'
                                      go_simp
                                      with_reducible rfl
                                    rotate_left
                                    · simp only [Act.put, List.setIfInBounds_toArray, List.set_cons_zero, List.set_cons_succ, i64_w, i32_w]
                                      rfl
                                    refine pure_ (i := 7) (N := some 89) (v := ?_) (a' := ?_) #[true, true, true, true, true, true, true, true, true, true, true, true, true, false, false, false] rfl rfl (any_of HT_.out (by kernel_rfl)) (fun _ _ _ h => h) (Or.inl ⟨by rfl, ?_⟩) ?_ ?_
                                    rotate_left
                                    · intro w'
                                      go_simp
                                      with_reducible rfl
                                    rotate_left
                                    · simp only [Act.put, List.setIfInBounds_toArray, List.set_cons_zero, List.set_cons_succ, i64_w, i32_w]
                                      rfl
                                    refine one_ (i := 13) (N := some 95) #[true, true, true, true, true, true, true, true, true, true, true, true, true, true, false, false] rfl rfl (one_of HT_.out (by kernel_rfl)) (by decide) (fun K hK => ?_)
                                    refine goes_ Try.func94 (by kernel_rfl) rfl #[.agg #[.int .u8 62, .bool t415, .string ((rd_T109 l0 x7_1).f2)], .int .i64 a1] (by rfl) rfl rfl (by (try simp only [List.map_toArray, List.map_cons, List.map_nil]); first | done | rfl | (simp only [List.length_drop, List.length_take]; rfl)) ?_
                                    with_reducible refine (tripartiteref08_line.calls k1 62 t415 ((rd_T109 l0 x7_1).f2) a1 t419 _ A30.out).mono ?_
                                    rintro e w39 ⟨rfl, hb⟩
                                    refine ⟨_, rfl, ?_⟩
                                    have n0_ := Aside0.mk (blk_below (g := gb409) (o := .cells #[.string ((rd_T109 l0 x7_1).f0), .string ((rd_T109 l0 x7_1).f1), .string ((rd_T109 l0 x7_1).f2), .bool true, .string ((rd_T109 l0 x7_1).f4), .string ((rd_T109 l0 x7_1).f5), .string ((rd_T109 l0 x7_1).f6), .string ((rd_T109 l0 x7_1).f7), .bool true] 109 (0, 0)) (by (with_reducible repeat (first | refine blk_drewN ?_ _ | refine blk_drew ?_ | refine blk_alloc ?_ _)); exact BK409.out) hb)
                                    have n1_ := Aside0.mk (below_step (by repeat (first | (with_reducible first | exact HB.out | apply below_alloc | apply pw_below_drewN | apply below_drew1 | refine below_set ?_ GE409.out) | exact HB.out)) hb)
                                    clear BK409
                                    clear HB
                                    have BK409 := n0_
                                    have HB := n1_
                                    clear n0_ n1_
                                    (try clear hb)
                                    (try clear hb2)
                                    (try clear hk)
                                    (try clear hi)
                                    refine hK.out _ _ ⟨(blk_cell BK409.out 0).trans rfl, (blk_cell BK409.out 1).trans rfl, (blk_cell BK409.out 2).trans rfl, (blk_cell BK409.out 3).trans rfl, (blk_cell BK409.out 4).trans rfl, (blk_cell BK409.out 5).trans rfl, (blk_cell BK409.out 6).trans rfl, (blk_cell BK409.out 7).trans rfl, (blk_cell BK409.out 8).trans rfl⟩ (fun hHeld => ?_)
                                    clear hK K
                                    refine norm_ (a' := ?_) ?_ ?_
                                    rotate_left
                                    · show Act.put _ (some 95) _ = _
                                      simp only [Act.put, List.setIfInBounds_toArray, List.set_cons_zero, List.set_cons_succ, i64_w, i32_w]
                                      rfl
                                    refine pure_ (i := 14) (N := some 96) (v := ?_) (a' := ?_) #[true, true, true, true, true, true, true, true, true, true, true, true, true, true, true, false] rfl rfl (any_of HT_.out (by kernel_rfl)) (fun _ _ _ h => h) (Or.inl ⟨by rfl, ?_⟩) ?_ ?_
                                    rotate_left
                                    · intro w'
                                      go_simp
                                      with_reducible rfl
                                    rotate_left
                                    · simp only [Act.put, List.setIfInBounds_toArray, List.set_cons_zero, List.set_cons_succ, i64_w, i32_w]
                                      rfl
                                    refine pure_ (i := 15) (N := some 6) (v := ?_) (a' := ?_) #[true, true, true, true, true, true, true, true, true, true, true, true, true, true, true, true] rfl rfl (any_of HT_.out (by kernel_rfl)) (fun _ _ _ h => h) (Or.inl ⟨by rfl, ?_⟩) ?_ ?_
                                    rotate_left
                                    · intro w'
                                      go_simp
                                      with_reducible rfl
                                    rotate_left
                                    · simp only [Act.put, List.setIfInBounds_toArray, List.set_cons_zero, List.set_cons_succ, i64_w, i32_w]
                                      rfl
                                    refine done_ (done_of HT_.out (by kernel_rfl)) ?_
                                    try go_wp2
                                    go_roundg k1
                                    case measure => have := HK1.out; omega
                                    case rel => exact ⟨((((((((x6_1 ++ ((rd_T109 l0 x7_1).f4)) ++ t416) ++ t410) ++ t417) ++ t412) ++ t418) ++ t414) ++ t419), (wrap64 (x7_1 + 1)), (by first | rfl | (simp; done) | (simp [*]; done)), (by first | rfl | (simp; done) | (simp [*]; done)), H', ⟨by have := HK1.out; omega⟩, ⟨by repeat (first | (with_reducible first | exact HB.out | apply below_alloc | apply pw_below_drewN | apply below_drew1 | refine below_set ?_ GE409.out) | exact HB.out)⟩⟩
                                  · rw [if_neg c31] at H
                                    exact absurd H (by simp)
                                · rw [if_neg c29] at H
                                  exact absurd H (by simp)
                              · rw [if_neg c28] at H
                                exact absurd H (by simp)
                            · rw [if_neg c26] at H
                              exact absurd H (by simp)
                          · rw [if_neg c25] at H
                            exact absurd H (by simp)
                        · replace c23 := Bool.eq_false_iff.mpr c23
                          subst c23
                          have H1 : ((tripartiteref08_line.f k1 61 t411 (⟨#[]⟩ : ByteArray) a1).bind fun t420 => (if (((x6_1 ++ ((rd_T109 l0 x7_1).f4)) ++ t416) ++ t410).size + t420.size ≤ 9223372036854775807 then (if ((((x6_1 ++ ((rd_T109 l0 x7_1).f4)) ++ t416) ++ t410) ++ t420).size + t414.size ≤ 9223372036854775807 then ((tripartiteref08_line.f k1 62 t415 ((rd_T109 l0 x7_1).f2) a1).bind fun t421 => (if (((((x6_1 ++ ((rd_T109 l0 x7_1).f4)) ++ t416) ++ t410) ++ t420) ++ t414).size + t421.size ≤ 9223372036854775807 then (tripartiteref08_Print.l0 k1 l0 a1 ((((((x6_1 ++ ((rd_T109 l0 x7_1).f4)) ++ t416) ++ t410) ++ t420) ++ t414) ++ t421) (wrap64 (x7_1 + 1))) else (none))) else (none)) else (none))) = some (r1, r2) := by rw [if_neg (show ¬ (false = true) by decide)] at H; exact H
                          clear H
                          have H := H1
                          clear H1
                          replace H := Option.bind_eq_some_iff.mp H
                          obtain ⟨t420, A400, H⟩ := H
                          replace H : (if (((x6_1 ++ ((rd_T109 l0 x7_1).f4)) ++ t416) ++ t410).size + t420.size ≤ 9223372036854775807 then (if ((((x6_1 ++ ((rd_T109 l0 x7_1).f4)) ++ t416) ++ t410) ++ t420).size + t414.size ≤ 9223372036854775807 then ((tripartiteref08_line.f k1 62 t415 ((rd_T109 l0 x7_1).f2) a1).bind fun t421 => (if (((((x6_1 ++ ((rd_T109 l0 x7_1).f4)) ++ t416) ++ t410) ++ t420) ++ t414).size + t421.size ≤ 9223372036854775807 then (tripartiteref08_Print.l0 k1 l0 a1 ((((((x6_1 ++ ((rd_T109 l0 x7_1).f4)) ++ t416) ++ t410) ++ t420) ++ t414) ++ t421) (wrap64 (x7_1 + 1))) else (none))) else (none)) else (none)) = some (r1, r2) := H
                          have A40 := Aside0.mk A400
                          clear A400
                          by_cases c41 : (((x6_1 ++ ((rd_T109 l0 x7_1).f4)) ++ t416) ++ t410).size + t420.size ≤ 9223372036854775807
                          · rw [if_pos c41] at H
                            have c41b0 := eq_true c41
                            have c41b1 : decide ((((x6_1 ++ ((rd_T109 l0 x7_1).f4)) ++ t416) ++ t410).size + t420.size ≤ 9223372036854775807) = true := decide_eq_true c41
                            try have c41b2 : (9223372036854775807 < (((x6_1 ++ ((rd_T109 l0 x7_1).f4)) ++ t416) ++ t410).size + t420.size) = False := eq_false (Nat.not_lt.2 c41)
                            try have c41b3 : (9223372036854775807 < x6_1.size + ((rd_T109 l0 x7_1).f4).size + t416.size + t410.size + t420.size) = False := eq_false (Nat.not_lt.2 (Nat.le_trans (Nat.le_of_eq (by first | rfl | (simp only [ByteArray.size_append]; done) | (simp only [ByteArray.size_append]; rfl))) c41))
                            by_cases c42 : ((((x6_1 ++ ((rd_T109 l0 x7_1).f4)) ++ t416) ++ t410) ++ t420).size + t414.size ≤ 9223372036854775807
                            · rw [if_pos c42] at H
                              have c42b0 := eq_true c42
                              have c42b1 : decide (((((x6_1 ++ ((rd_T109 l0 x7_1).f4)) ++ t416) ++ t410) ++ t420).size + t414.size ≤ 9223372036854775807) = true := decide_eq_true c42
                              try have c42b2 : (9223372036854775807 < ((((x6_1 ++ ((rd_T109 l0 x7_1).f4)) ++ t416) ++ t410) ++ t420).size + t414.size) = False := eq_false (Nat.not_lt.2 c42)
                              try have c42b3 : (9223372036854775807 < x6_1.size + ((rd_T109 l0 x7_1).f4).size + t416.size + t410.size + t420.size + t414.size) = False := eq_false (Nat.not_lt.2 (Nat.le_trans (Nat.le_of_eq (by first | rfl | (simp only [ByteArray.size_append]; done) | (simp only [ByteArray.size_append]; rfl))) c42))
                              replace H := Option.bind_eq_some_iff.mp H
                              obtain ⟨t421, A430, H⟩ := H
                              replace H : (if (((((x6_1 ++ ((rd_T109 l0 x7_1).f4)) ++ t416) ++ t410) ++ t420) ++ t414).size + t421.size ≤ 9223372036854775807 then (tripartiteref08_Print.l0 k1 l0 a1 ((((((x6_1 ++ ((rd_T109 l0 x7_1).f4)) ++ t416) ++ t410) ++ t420) ++ t414) ++ t421) (wrap64 (x7_1 + 1))) else (none)) = some (r1, r2) := H
                              have A43 := Aside0.mk A430
                              clear A430
                              by_cases c44 : (((((x6_1 ++ ((rd_T109 l0 x7_1).f4)) ++ t416) ++ t410) ++ t420) ++ t414).size + t421.size ≤ 9223372036854775807
                              · rw [if_pos c44] at H
                                have c44b0 := eq_true c44
                                have c44b1 : decide ((((((x6_1 ++ ((rd_T109 l0 x7_1).f4)) ++ t416) ++ t410) ++ t420) ++ t414).size + t421.size ≤ 9223372036854775807) = true := decide_eq_true c44
                                try have c44b2 : (9223372036854775807 < (((((x6_1 ++ ((rd_T109 l0 x7_1).f4)) ++ t416) ++ t410) ++ t420) ++ t414).size + t421.size) = False := eq_false (Nat.not_lt.2 c44)
                                try have c44b3 : (9223372036854775807 < x6_1.size + ((rd_T109 l0 x7_1).f4).size + t416.size + t410.size + t420.size + t414.size + t421.size) = False := eq_false (Nat.not_lt.2 (Nat.le_trans (Nat.le_of_eq (by first | rfl | (simp only [ByteArray.size_append]; done) | (simp only [ByteArray.size_append]; rfl))) c44))
                                have H' := Aside0.mk H
                                clear H
                                have p408 : 0 ≤ (x7_1 : Int) := of_decide_eq_true (by first | (with_reducible assumption) | assumption)
                                have q408 : x7_1 < (l0.length : Int) := of_decide_eq_true (by first | (with_reducible assumption) | assumption)
                                obtain ⟨ad408, e408, hx408_0, hx408_1, hx408_2, hx408_3, hx408_4, hx408_5, hx408_6, hx408_7, hx408_8⟩ := at_T109 HR0.out x7_1 p408 q408
                                (try rw [← Nbq14.out] at hx408_3)
                                (try rw [← Nbq22.out] at hx408_3)
                                (try rw [← Nbq14.out] at hx408_8)
                                (try rw [← Nbq22.out] at hx408_8)
                                cases e408
                                replace hx408_0 := (HB.out.cell (World.block_lt_of_cell? w _ hx408_0)).trans hx408_0
                                replace hx408_1 := (HB.out.cell (World.block_lt_of_cell? w _ hx408_1)).trans hx408_1
                                replace hx408_2 := (HB.out.cell (World.block_lt_of_cell? w _ hx408_2)).trans hx408_2
                                replace hx408_3 := (HB.out.cell (World.block_lt_of_cell? w _ hx408_3)).trans hx408_3
                                replace hx408_4 := (HB.out.cell (World.block_lt_of_cell? w _ hx408_4)).trans hx408_4
                                replace hx408_5 := (HB.out.cell (World.block_lt_of_cell? w _ hx408_5)).trans hx408_5
                                replace hx408_6 := (HB.out.cell (World.block_lt_of_cell? w _ hx408_6)).trans hx408_6
                                replace hx408_7 := (HB.out.cell (World.block_lt_of_cell? w _ hx408_7)).trans hx408_7
                                replace hx408_8 := (HB.out.cell (World.block_lt_of_cell? w _ hx408_8)).trans hx408_8
                                replace p408 := eq_true p408
                                replace q408 := eq_true q408
                                try go_wp2_with (first | ((with_reducible refine gate_dst (N := 8) rfl ?_); refine box_event ?hg (N := 8) ?hd (cs := #[.string (⟨#[]⟩ : ByteArray), .string (⟨#[]⟩ : ByteArray), .string (⟨#[]⟩ : ByteArray), .bool false, .string (⟨#[]⟩ : ByteArray), .string (⟨#[]⟩ : ByteArray), .string (⟨#[]⟩ : ByteArray), .string (⟨#[]⟩ : ByteArray), .bool false]) (t := 109) ?hr ?_; (case hd => rfl); (case hg => rfl); (case hr => first | (go_simp; done) | (go_simp; rfl)); intro gb409 hg w45 hbox hb; have n0_ := Aside0.mk (below_step (by repeat (first | (with_reducible first | exact HB.out | apply below_alloc | apply pw_below_drewN | apply below_drew1) | exact HB.out)) hb); have n1_ := Aside0.mk (hbox); have n2_ := Aside0.mk ((by rw [hg]; exact (below_size (by repeat (first | (with_reducible first | exact HB.out | apply below_alloc | apply pw_below_drewN | apply below_drew1) | exact HB.out))) : w.heap.size ≤ gb409)); have n3_ := Aside0.mk ((by rw [hg]; exact (below_size (by repeat (first | (with_reducible first | exact HB.out | apply below_alloc | apply pw_below_drewN | apply below_drew1) | exact HB.out))) : w.heap.size ≤ gb409)); clear HB; have HB := n0_; have BK409 := n1_; have GW409 := n2_; have GE409 := n3_; clear n0_ n1_ n2_ n3_; clear hb hbox hg; have hcz46_0 : w45.cell? ⟨gb409, 0, none⟩ = some (.string (⟨#[]⟩ : ByteArray)) := (blk_cell BK409.out 0).trans rfl; have hcz46_1 : w45.cell? ⟨gb409, 1, none⟩ = some (.string (⟨#[]⟩ : ByteArray)) := (blk_cell BK409.out 1).trans rfl; have hcz46_2 : w45.cell? ⟨gb409, 2, none⟩ = some (.string (⟨#[]⟩ : ByteArray)) := (blk_cell BK409.out 2).trans rfl; have hcz46_3 : w45.cell? ⟨gb409, 3, none⟩ = some (.bool false) := (blk_cell BK409.out 3).trans rfl; have hcz46_4 : w45.cell? ⟨gb409, 4, none⟩ = some (.string (⟨#[]⟩ : ByteArray)) := (blk_cell BK409.out 4).trans rfl; have hcz46_5 : w45.cell? ⟨gb409, 5, none⟩ = some (.string (⟨#[]⟩ : ByteArray)) := (blk_cell BK409.out 5).trans rfl; have hcz46_6 : w45.cell? ⟨gb409, 6, none⟩ = some (.string (⟨#[]⟩ : ByteArray)) := (blk_cell BK409.out 6).trans rfl; have hcz46_7 : w45.cell? ⟨gb409, 7, none⟩ = some (.string (⟨#[]⟩ : ByteArray)) := (blk_cell BK409.out 7).trans rfl; have hcz46_8 : w45.cell? ⟨gb409, 8, none⟩ = some (.bool false) := (blk_cell BK409.out 8).trans rfl; have hfz46_0 := blk_frozen BK409.out 0; have hfz46_1 := blk_frozen BK409.out 1; have hfz46_2 := blk_frozen BK409.out 2; have hfz46_3 := blk_frozen BK409.out 3; have hfz46_4 := blk_frozen BK409.out 4; have hfz46_5 := blk_frozen BK409.out 5; have hfz46_6 := blk_frozen BK409.out 6; have hfz46_7 := blk_frozen BK409.out 7; have hfz46_8 := blk_frozen BK409.out 8) | ((with_reducible refine gate_callee (f := 93) rfl ?_); refine goesL_ (some 45) rfl rfl Try.func93 (by kernel_rfl) rfl #[.string ((rd_T109 l0 x7_1).f5)] rfl (by (try simp only [List.map_toArray, List.map_cons, List.map_nil]); first | done | rfl | (simp only [List.length_drop, List.length_take]; rfl)) ?_; (with_reducible refine (tripartiteref08_side.calls ((rd_T109 l0 x7_1).f5) t410 t411 _ A16.out).mono ?_); rintro e w' ⟨rfl, ⟨nd, rfl⟩⟩; refine ⟨_, rfl, ?_⟩) | ((with_reducible refine gate_callee (f := 93) rfl ?_); refine goesL_ (some 51) rfl rfl Try.func93 (by kernel_rfl) rfl #[.string ((rd_T109 l0 x7_1).f6)] rfl (by (try simp only [List.map_toArray, List.map_cons, List.map_nil]); first | done | rfl | (simp only [List.length_drop, List.length_take]; rfl)) ?_; (with_reducible refine (tripartiteref08_side.calls ((rd_T109 l0 x7_1).f6) t412 t413 _ A17.out).mono ?_); rintro e w' ⟨rfl, ⟨nd, rfl⟩⟩; refine ⟨_, rfl, ?_⟩) | ((with_reducible refine gate_callee (f := 93) rfl ?_); refine goesL_ (some 57) rfl rfl Try.func93 (by kernel_rfl) rfl #[.string ((rd_T109 l0 x7_1).f7)] rfl (by (try simp only [List.map_toArray, List.map_cons, List.map_nil]); first | done | rfl | (simp only [List.length_drop, List.length_take]; rfl)) ?_; (with_reducible refine (tripartiteref08_side.calls ((rd_T109 l0 x7_1).f7) t414 t415 _ A18.out).mono ?_); rintro e w' ⟨rfl, ⟨nd, rfl⟩⟩; refine ⟨_, rfl, ?_⟩) | ((with_reducible refine gate_callee (f := 94) rfl ?_); refine goesL_ (some 65) rfl rfl Try.func94 (by kernel_rfl) rfl #[.agg #[.int .u8 60, .bool false, .string ((rd_T109 l0 x7_1).f0)], .int .i64 a1] rfl (by (try simp only [List.map_toArray, List.map_cons, List.map_nil]); first | done | rfl | (simp only [List.length_drop, List.length_take]; rfl)) ?_; (with_reducible refine (tripartiteref08_line.calls k1 60 false ((rd_T109 l0 x7_1).f0) a1 t416 _ A19.out).mono ?_); rintro e w47 ⟨rfl, hb⟩; refine ⟨_, rfl, ?_⟩; have n0_ := Aside0.mk (blk_below (g := gb409) (o := .cells #[.string ((rd_T109 l0 x7_1).f0), .string ((rd_T109 l0 x7_1).f1), .string ((rd_T109 l0 x7_1).f2), .bool true, .string ((rd_T109 l0 x7_1).f4), .string ((rd_T109 l0 x7_1).f5), .string ((rd_T109 l0 x7_1).f6), .string ((rd_T109 l0 x7_1).f7), .bool false] 109 (0, 0)) (by (with_reducible repeat (first | refine blk_drewN ?_ _ | refine blk_drew ?_ | refine blk_alloc ?_ _)); refine blk_put (cs := #[.string ((rd_T109 l0 x7_1).f0), .string ((rd_T109 l0 x7_1).f1), .string ((rd_T109 l0 x7_1).f2), .bool true, .string ((rd_T109 l0 x7_1).f4), .string ((rd_T109 l0 x7_1).f5), .string ((rd_T109 l0 x7_1).f6), .string ((rd_T109 l0 x7_1).f7), .bool false]) ?_ 8 _ rfl; (with_reducible repeat (first | refine blk_drewN ?_ _ | refine blk_drew ?_ | refine blk_alloc ?_ _)); refine blk_put (cs := #[.string ((rd_T109 l0 x7_1).f0), .string ((rd_T109 l0 x7_1).f1), .string ((rd_T109 l0 x7_1).f2), .bool true, .string ((rd_T109 l0 x7_1).f4), .string ((rd_T109 l0 x7_1).f5), .string ((rd_T109 l0 x7_1).f6), .string (⟨#[]⟩ : ByteArray), .bool false]) ?_ 7 _ rfl; (with_reducible repeat (first | refine blk_drewN ?_ _ | refine blk_drew ?_ | refine blk_alloc ?_ _)); refine blk_put (cs := #[.string ((rd_T109 l0 x7_1).f0), .string ((rd_T109 l0 x7_1).f1), .string ((rd_T109 l0 x7_1).f2), .bool true, .string ((rd_T109 l0 x7_1).f4), .string ((rd_T109 l0 x7_1).f5), .string (⟨#[]⟩ : ByteArray), .string (⟨#[]⟩ : ByteArray), .bool false]) ?_ 6 _ rfl; (with_reducible repeat (first | refine blk_drewN ?_ _ | refine blk_drew ?_ | refine blk_alloc ?_ _)); refine blk_put (cs := #[.string ((rd_T109 l0 x7_1).f0), .string ((rd_T109 l0 x7_1).f1), .string ((rd_T109 l0 x7_1).f2), .bool true, .string ((rd_T109 l0 x7_1).f4), .string (⟨#[]⟩ : ByteArray), .string (⟨#[]⟩ : ByteArray), .string (⟨#[]⟩ : ByteArray), .bool false]) ?_ 5 _ rfl; (with_reducible repeat (first | refine blk_drewN ?_ _ | refine blk_drew ?_ | refine blk_alloc ?_ _)); refine blk_put (cs := #[.string ((rd_T109 l0 x7_1).f0), .string ((rd_T109 l0 x7_1).f1), .string ((rd_T109 l0 x7_1).f2), .bool true, .string (⟨#[]⟩ : ByteArray), .string (⟨#[]⟩ : ByteArray), .string (⟨#[]⟩ : ByteArray), .string (⟨#[]⟩ : ByteArray), .bool false]) ?_ 4 _ rfl; (with_reducible repeat (first | refine blk_drewN ?_ _ | refine blk_drew ?_ | refine blk_alloc ?_ _)); refine blk_put (cs := #[.string ((rd_T109 l0 x7_1).f0), .string ((rd_T109 l0 x7_1).f1), .string ((rd_T109 l0 x7_1).f2), .bool false, .string (⟨#[]⟩ : ByteArray), .string (⟨#[]⟩ : ByteArray), .string (⟨#[]⟩ : ByteArray), .string (⟨#[]⟩ : ByteArray), .bool false]) ?_ 3 _ rfl; (with_reducible repeat (first | refine blk_drewN ?_ _ | refine blk_drew ?_ | refine blk_alloc ?_ _)); refine blk_put (cs := #[.string ((rd_T109 l0 x7_1).f0), .string ((rd_T109 l0 x7_1).f1), .string (⟨#[]⟩ : ByteArray), .bool false, .string (⟨#[]⟩ : ByteArray), .string (⟨#[]⟩ : ByteArray), .string (⟨#[]⟩ : ByteArray), .string (⟨#[]⟩ : ByteArray), .bool false]) ?_ 2 _ rfl; (with_reducible repeat (first | refine blk_drewN ?_ _ | refine blk_drew ?_ | refine blk_alloc ?_ _)); refine blk_put (cs := #[.string ((rd_T109 l0 x7_1).f0), .string (⟨#[]⟩ : ByteArray), .string (⟨#[]⟩ : ByteArray), .bool false, .string (⟨#[]⟩ : ByteArray), .string (⟨#[]⟩ : ByteArray), .string (⟨#[]⟩ : ByteArray), .string (⟨#[]⟩ : ByteArray), .bool false]) ?_ 1 _ rfl; (with_reducible repeat (first | refine blk_drewN ?_ _ | refine blk_drew ?_ | refine blk_alloc ?_ _)); refine blk_put (cs := #[.string (⟨#[]⟩ : ByteArray), .string (⟨#[]⟩ : ByteArray), .string (⟨#[]⟩ : ByteArray), .bool false, .string (⟨#[]⟩ : ByteArray), .string (⟨#[]⟩ : ByteArray), .string (⟨#[]⟩ : ByteArray), .string (⟨#[]⟩ : ByteArray), .bool false]) ?_ 0 _ rfl; (with_reducible repeat (first | refine blk_drewN ?_ _ | refine blk_drew ?_ | refine blk_alloc ?_ _)); exact BK409.out) hb); have n1_ := Aside0.mk (below_step (by repeat (first | (with_reducible first | exact HB.out | apply below_alloc | apply pw_below_drewN | apply below_drew1 | refine below_set ?_ GE409.out) | exact HB.out)) hb); clear BK409; clear HB; have BK409 := n0_; have HB := n1_; clear n0_ n1_; (try clear hb); (try clear hb2); (try clear hk); (try clear hi); have hcz48_0 : w47.cell? ⟨gb409, 0, none⟩ = some (.string ((rd_T109 l0 x7_1).f0)) := (blk_cell BK409.out 0).trans rfl; have hcz48_1 : w47.cell? ⟨gb409, 1, none⟩ = some (.string ((rd_T109 l0 x7_1).f1)) := (blk_cell BK409.out 1).trans rfl; have hcz48_2 : w47.cell? ⟨gb409, 2, none⟩ = some (.string ((rd_T109 l0 x7_1).f2)) := (blk_cell BK409.out 2).trans rfl; have hcz48_3 : w47.cell? ⟨gb409, 3, none⟩ = some (.bool true) := (blk_cell BK409.out 3).trans rfl; have hcz48_4 : w47.cell? ⟨gb409, 4, none⟩ = some (.string ((rd_T109 l0 x7_1).f4)) := (blk_cell BK409.out 4).trans rfl; have hcz48_5 : w47.cell? ⟨gb409, 5, none⟩ = some (.string ((rd_T109 l0 x7_1).f5)) := (blk_cell BK409.out 5).trans rfl; have hcz48_6 : w47.cell? ⟨gb409, 6, none⟩ = some (.string ((rd_T109 l0 x7_1).f6)) := (blk_cell BK409.out 6).trans rfl; have hcz48_7 : w47.cell? ⟨gb409, 7, none⟩ = some (.string ((rd_T109 l0 x7_1).f7)) := (blk_cell BK409.out 7).trans rfl; have hcz48_8 : w47.cell? ⟨gb409, 8, none⟩ = some (.bool false) := (blk_cell BK409.out 8).trans rfl; have hfz48_0 := blk_frozen BK409.out 0; have hfz48_1 := blk_frozen BK409.out 1; have hfz48_2 := blk_frozen BK409.out 2; have hfz48_3 := blk_frozen BK409.out 3; have hfz48_4 := blk_frozen BK409.out 4; have hfz48_5 := blk_frozen BK409.out 5; have hfz48_6 := blk_frozen BK409.out 6; have hfz48_7 := blk_frozen BK409.out 7; have hfz48_8 := blk_frozen BK409.out 8))
                                have n0_ := Aside0.mk (blk_drew BK409.out)
                                have n1_ := Aside0.mk (below_drew1 HB.out)
                                clear BK409
                                clear HB
                                have BK409 := n0_
                                have HB := n1_
                                clear n0_ n1_
                                refine start_ (n := 16) (S := fun w' => w'.cell? ⟨gb409, 0, none⟩ = some (.string ((rd_T109 l0 x7_1).f0)) ∧ w'.cell? ⟨gb409, 1, none⟩ = some (.string ((rd_T109 l0 x7_1).f1)) ∧ w'.cell? ⟨gb409, 2, none⟩ = some (.string ((rd_T109 l0 x7_1).f2)) ∧ w'.cell? ⟨gb409, 3, none⟩ = some (.bool true) ∧ w'.cell? ⟨gb409, 4, none⟩ = some (.string ((rd_T109 l0 x7_1).f4)) ∧ w'.cell? ⟨gb409, 5, none⟩ = some (.string ((rd_T109 l0 x7_1).f5)) ∧ w'.cell? ⟨gb409, 6, none⟩ = some (.string ((rd_T109 l0 x7_1).f6)) ∧ w'.cell? ⟨gb409, 7, none⟩ = some (.string ((rd_T109 l0 x7_1).f7)) ∧ w'.cell? ⟨gb409, 8, none⟩ = some (.bool false)) (ds := []) #[false, false, false, false, false, false, false, false, false, false, false, false, false, false, false, false] (by kernel_rfl) rfl rfl ⟨(blk_cell BK409.out 0).trans rfl, (blk_cell BK409.out 1).trans rfl, (blk_cell BK409.out 2).trans rfl, (blk_cell BK409.out 3).trans rfl, (blk_cell BK409.out 4).trans rfl, (blk_cell BK409.out 5).trans rfl, (blk_cell BK409.out 6).trans rfl, (blk_cell BK409.out 7).trans rfl, (blk_cell BK409.out 8).trans rfl⟩ (fun hHeld => ?_); refine with_tabW tripartiteref08_Print.tab21 tripartiteref08_Print.bits21 (fun HT_ HW_ => ?_)
                                generalize w47.drew = w49 at BK409 HB hHeld ⊢
                                refine pure_ (i := 0) (N := some 82) (v := ?_) (a' := ?_) #[true, false, false, false, false, false, false, false, false, false, false, false, false, false, false, false] rfl rfl (any_of HT_.out (by kernel_rfl)) (fun _ _ _ h => h) (Or.inl ⟨by rfl, ?_⟩) ?_ ?_
                                rotate_left
                                · intro w'
                                  go_simp
                                  with_reducible rfl
                                rotate_left
                                · simp only [Act.put, List.setIfInBounds_toArray, List.set_cons_zero, List.set_cons_succ, i64_w, i32_w]
                                  rfl
                                refine pure_ (i := 1) (N := some 83) (v := ?_) (a' := ?_) #[true, true, false, false, false, false, false, false, false, false, false, false, false, false, false, false] rfl rfl (any_of HT_.out (by kernel_rfl)) (fun _ _ _ h => h) (Or.inl ⟨by rfl, ?_⟩) ?_ ?_
                                rotate_left
                                · intro w'
                                  go_simp
                                  with_reducible rfl
                                rotate_left
                                · simp only [Act.put, List.setIfInBounds_toArray, List.set_cons_zero, List.set_cons_succ, i64_w, i32_w]
                                  rfl
                                refine pure_ (i := 2) (N := some 84) (v := ?_) (a' := ?_) #[true, true, true, false, false, false, false, false, false, false, false, false, false, false, false, false] rfl rfl (any_of HT_.out (by kernel_rfl)) (fun _ _ _ h => h) (Or.inl ⟨by rfl, ?_⟩) ?_ ?_
                                rotate_left
                                · intro w'
                                  go_simp
                                  with_reducible rfl
                                rotate_left
                                · simp only [Act.put, List.setIfInBounds_toArray, List.set_cons_zero, List.set_cons_succ, i64_w, i32_w]
                                  rfl
                                refine pure_ (i := 3) (N := some 85) (v := ?_) (a' := ?_) #[true, true, true, true, false, false, false, false, false, false, false, false, false, false, false, false] rfl rfl (any_of HT_.out (by kernel_rfl)) (fun _ _ _ h => h) (Or.inl ⟨by rfl, ?_⟩) ?_ ?_
                                rotate_left
                                · intro w'
                                  go_simp
                                  with_reducible rfl
                                rotate_left
                                · simp only [Act.put, List.setIfInBounds_toArray, List.set_cons_zero, List.set_cons_succ, i64_w, i32_w]
                                  rfl
                                refine pure_ (i := 6) (N := some 88) (v := ?_) (a' := ?_) #[true, true, true, true, false, false, true, false, false, false, false, false, false, false, false, false] rfl rfl (any_of HT_.out (by kernel_rfl)) (fun _ _ _ h => h) (Or.inl ⟨by rfl, ?_⟩) ?_ ?_
                                rotate_left
                                · intro w'
                                  go_simp
                                  with_reducible rfl
                                rotate_left
                                · simp only [Act.put, List.setIfInBounds_toArray, List.set_cons_zero, List.set_cons_succ, i64_w, i32_w]
                                  rfl
                                refine pure_ (i := 8) (N := some 90) (v := ?_) (a' := ?_) #[true, true, true, true, false, false, true, false, true, false, false, false, false, false, false, false] rfl rfl (any_of HT_.out (by kernel_rfl)) (fun _ _ _ h => h) (Or.inl ⟨by rfl, ?_⟩) ?_ ?_
                                rotate_left
                                · intro w'
                                  go_simp
                                  with_reducible rfl
                                rotate_left
                                · simp only [Act.put, List.setIfInBounds_toArray, List.set_cons_zero, List.set_cons_succ, i64_w, i32_w]
                                  rfl
                                refine pure_ (i := 9) (N := some 91) (v := ?_) (a' := ?_) #[true, true, true, true, false, false, true, false, true, true, false, false, false, false, false, false] rfl rfl (any_of HT_.out (by kernel_rfl)) (fun _ _ _ h => h) (Or.inl ⟨by rfl, ?_⟩) ?_ ?_
                                rotate_left
                                · intro w'
                                  go_simp
                                  with_reducible rfl
                                rotate_left
                                · simp only [Act.put, List.setIfInBounds_toArray, List.set_cons_zero, List.set_cons_succ, i64_w, i32_w]
                                  rfl
                                refine pure_ (i := 12) (N := some 94) (v := ?_) (a' := ?_) #[true, true, true, true, false, false, true, false, true, true, false, false, true, false, false, false] rfl rfl (any_of HT_.out (by kernel_rfl)) (fun _ _ _ h => h) (Or.inl ⟨by rfl, ?_⟩) ?_ ?_
                                rotate_left
                                · intro w'
                                  go_simp
                                  with_reducible rfl
                                rotate_left
                                · simp only [Act.put, List.setIfInBounds_toArray, List.set_cons_zero, List.set_cons_succ, i64_w, i32_w]
                                  rfl
                                refine take_ (i := 10) (N := some 92) (v := ?_) (a' := ?_) #[true, true, true, true, false, false, true, false, true, true, true, false, true, false, false, false] rfl rfl (take_ofW HT_.out HW_.out (by kernel_rfl)) (fun _ _ _ h => h) (Or.inl ⟨by rfl, ?_⟩) hHeld ?_ ?_
                                rotate_left
                                · rintro w' ⟨s0, s1, s2, s3, s4, s5, s6, s7, s8⟩
                                  go_simp
                                  with_reducible rfl
                                rotate_left
                                · simp only [Act.put, List.setIfInBounds_toArray, List.set_cons_zero, List.set_cons_succ, i64_w, i32_w]
                                  rfl
                                refine pure_ (i := 11) (N := some 93) (v := ?_) (a' := ?_) #[true, true, true, true, false, false, true, false, true, true, true, true, true, false, false, false] rfl rfl (any_of HT_.out (by kernel_rfl)) (fun _ _ _ h => h) (Or.inl ⟨by rfl, ?_⟩) ?_ ?_
                                rotate_left
                                · intro w'
                                  go_simp
                                  with_reducible rfl
                                rotate_left
                                · simp only [Act.put, List.setIfInBounds_toArray, List.set_cons_zero, List.set_cons_succ, i64_w, i32_w]
                                  rfl
                                refine one_ (i := 4) (N := some 86) #[true, true, true, true, true, false, true, false, true, true, true, true, true, false, false, false] rfl rfl (one_of HT_.out (by kernel_rfl)) (by decide) (fun K hK => ?_)
                                refine goes_ Try.func94 (by kernel_rfl) rfl #[.agg #[.int .u8 61, .bool t411, .string (⟨#[]⟩ : ByteArray)], .int .i64 a1] (by rfl) rfl rfl (by (try simp only [List.map_toArray, List.map_cons, List.map_nil]); first | done | rfl | (simp only [List.length_drop, List.length_take]; rfl)) ?_
                                with_reducible refine (tripartiteref08_line.calls k1 61 t411 (⟨#[]⟩ : ByteArray) a1 t420 _ A40.out).mono ?_
                                rintro e w50 ⟨rfl, hb⟩
                                refine ⟨_, rfl, ?_⟩
                                have n0_ := Aside0.mk (blk_below (g := gb409) (o := .cells #[.string ((rd_T109 l0 x7_1).f0), .string ((rd_T109 l0 x7_1).f1), .string ((rd_T109 l0 x7_1).f2), .bool true, .string ((rd_T109 l0 x7_1).f4), .string ((rd_T109 l0 x7_1).f5), .string ((rd_T109 l0 x7_1).f6), .string ((rd_T109 l0 x7_1).f7), .bool false] 109 (0, 0)) (by (with_reducible repeat (first | refine blk_drewN ?_ _ | refine blk_drew ?_ | refine blk_alloc ?_ _)); exact BK409.out) hb)
                                have n1_ := Aside0.mk (below_step (by repeat (first | (with_reducible first | exact HB.out | apply below_alloc | apply pw_below_drewN | apply below_drew1 | refine below_set ?_ GE409.out) | exact HB.out)) hb)
                                clear BK409
                                clear HB
                                have BK409 := n0_
                                have HB := n1_
                                clear n0_ n1_
                                (try clear hb)
                                (try clear hb2)
                                (try clear hk)
                                (try clear hi)
                                refine hK.out _ _ ⟨(blk_cell BK409.out 0).trans rfl, (blk_cell BK409.out 1).trans rfl, (blk_cell BK409.out 2).trans rfl, (blk_cell BK409.out 3).trans rfl, (blk_cell BK409.out 4).trans rfl, (blk_cell BK409.out 5).trans rfl, (blk_cell BK409.out 6).trans rfl, (blk_cell BK409.out 7).trans rfl, (blk_cell BK409.out 8).trans rfl⟩ (fun hHeld => ?_)
                                clear hK K
                                refine norm_ (a' := ?_) ?_ ?_
                                rotate_left
                                · show Act.put _ (some 86) _ = _
                                  simp only [Act.put, List.setIfInBounds_toArray, List.set_cons_zero, List.set_cons_succ, i64_w, i32_w]
                                  rfl
                                refine pure_ (i := 5) (N := some 87) (v := ?_) (a' := ?_) #[true, true, true, true, true, true, true, false, true, true, true, true, true, false, false, false] rfl rfl (any_of HT_.out (by kernel_rfl)) (fun _ _ _ h => h) (Or.inl ⟨by rfl, ?_⟩) ?_ ?_
                                rotate_left
                                · intro w'
                                  go_simp
                                  with_reducible rfl
                                rotate_left
                                · simp only [Act.put, List.setIfInBounds_toArray, List.set_cons_zero, List.set_cons_succ, i64_w, i32_w]
                                  rfl
                                refine pure_ (i := 7) (N := some 89) (v := ?_) (a' := ?_) #[true, true, true, true, true, true, true, true, true, true, true, true, true, false, false, false] rfl rfl (any_of HT_.out (by kernel_rfl)) (fun _ _ _ h => h) (Or.inl ⟨by rfl, ?_⟩) ?_ ?_
                                rotate_left
                                · intro w'
                                  go_simp
                                  with_reducible rfl
                                rotate_left
                                · simp only [Act.put, List.setIfInBounds_toArray, List.set_cons_zero, List.set_cons_succ, i64_w, i32_w]
                                  rfl
                                refine one_ (i := 13) (N := some 95) #[true, true, true, true, true, true, true, true, true, true, true, true, true, true, false, false] rfl rfl (one_of HT_.out (by kernel_rfl)) (by decide) (fun K hK => ?_)
                                refine goes_ Try.func94 (by kernel_rfl) rfl #[.agg #[.int .u8 62, .bool t415, .string ((rd_T109 l0 x7_1).f2)], .int .i64 a1] (by rfl) rfl rfl (by (try simp only [List.map_toArray, List.map_cons, List.map_nil]); first | done | rfl | (simp only [List.length_drop, List.length_take]; rfl)) ?_
                                with_reducible refine (tripartiteref08_line.calls k1 62 t415 ((rd_T109 l0 x7_1).f2) a1 t421 _ A43.out).mono ?_
                                rintro e w51 ⟨rfl, hb⟩
                                refine ⟨_, rfl, ?_⟩
                                have n0_ := Aside0.mk (blk_below (g := gb409) (o := .cells #[.string ((rd_T109 l0 x7_1).f0), .string ((rd_T109 l0 x7_1).f1), .string ((rd_T109 l0 x7_1).f2), .bool true, .string ((rd_T109 l0 x7_1).f4), .string ((rd_T109 l0 x7_1).f5), .string ((rd_T109 l0 x7_1).f6), .string ((rd_T109 l0 x7_1).f7), .bool false] 109 (0, 0)) (by (with_reducible repeat (first | refine blk_drewN ?_ _ | refine blk_drew ?_ | refine blk_alloc ?_ _)); exact BK409.out) hb)
                                have n1_ := Aside0.mk (below_step (by repeat (first | (with_reducible first | exact HB.out | apply below_alloc | apply pw_below_drewN | apply below_drew1 | refine below_set ?_ GE409.out) | exact HB.out)) hb)
                                clear BK409
                                clear HB
                                have BK409 := n0_
                                have HB := n1_
                                clear n0_ n1_
                                (try clear hb)
                                (try clear hb2)
                                (try clear hk)
                                (try clear hi)
                                refine hK.out _ _ ⟨(blk_cell BK409.out 0).trans rfl, (blk_cell BK409.out 1).trans rfl, (blk_cell BK409.out 2).trans rfl, (blk_cell BK409.out 3).trans rfl, (blk_cell BK409.out 4).trans rfl, (blk_cell BK409.out 5).trans rfl, (blk_cell BK409.out 6).trans rfl, (blk_cell BK409.out 7).trans rfl, (blk_cell BK409.out 8).trans rfl⟩ (fun hHeld => ?_)
                                clear hK K
                                refine norm_ (a' := ?_) ?_ ?_
                                rotate_left
                                · show Act.put _ (some 95) _ = _
                                  simp only [Act.put, List.setIfInBounds_toArray, List.set_cons_zero, List.set_cons_succ, i64_w, i32_w]
                                  rfl
                                refine pure_ (i := 14) (N := some 96) (v := ?_) (a' := ?_) #[true, true, true, true, true, true, true, true, true, true, true, true, true, true, true, false] rfl rfl (any_of HT_.out (by kernel_rfl)) (fun _ _ _ h => h) (Or.inl ⟨by rfl, ?_⟩) ?_ ?_
                                rotate_left
                                · intro w'
                                  go_simp
                                  with_reducible rfl
                                rotate_left
                                · simp only [Act.put, List.setIfInBounds_toArray, List.set_cons_zero, List.set_cons_succ, i64_w, i32_w]
                                  rfl
                                refine pure_ (i := 15) (N := some 6) (v := ?_) (a' := ?_) #[true, true, true, true, true, true, true, true, true, true, true, true, true, true, true, true] rfl rfl (any_of HT_.out (by kernel_rfl)) (fun _ _ _ h => h) (Or.inl ⟨by rfl, ?_⟩) ?_ ?_
                                rotate_left
                                · intro w'
                                  go_simp
                                  with_reducible rfl
                                rotate_left
                                · simp only [Act.put, List.setIfInBounds_toArray, List.set_cons_zero, List.set_cons_succ, i64_w, i32_w]
                                  rfl
                                refine done_ (done_of HT_.out (by kernel_rfl)) ?_
                                try go_wp2
                                go_roundg k1
                                case measure => have := HK1.out; omega
                                case rel => exact ⟨((((((x6_1 ++ ((rd_T109 l0 x7_1).f4)) ++ t416) ++ t410) ++ t420) ++ t414) ++ t421), (wrap64 (x7_1 + 1)), (by first | rfl | (simp; done) | (simp [*]; done)), (by first | rfl | (simp; done) | (simp [*]; done)), H', ⟨by have := HK1.out; omega⟩, ⟨by repeat (first | (with_reducible first | exact HB.out | apply below_alloc | apply pw_below_drewN | apply below_drew1 | refine below_set ?_ GE409.out) | exact HB.out)⟩⟩
                              · rw [if_neg c44] at H
                                exact absurd H (by simp)
                            · rw [if_neg c42] at H
                              exact absurd H (by simp)
                          · rw [if_neg c41] at H
                            exact absurd H (by simp)
                      · rw [if_neg c21] at H
                        exact absurd H (by simp)
                    · rw [if_neg c20] at H
                      exact absurd H (by simp)
                  · replace c15 := Bool.eq_false_iff.mpr c15
                    subst c15
                    have H1 : (tripartiteref08_Print.l0 k1 l0 a1 (x6_1 ++ ((rd_T109 l0 x7_1).f4)) (wrap64 (x7_1 + 1))) = some (r1, r2) := by rw [if_neg (show ¬ (false = true) by decide)] at H; exact H
                    clear H
                    have H := H1
                    clear H1
                    have H' := Aside0.mk H
                    clear H
                    have p408 : 0 ≤ (x7_1 : Int) := of_decide_eq_true (by first | (with_reducible assumption) | assumption)
                    have q408 : x7_1 < (l0.length : Int) := of_decide_eq_true (by first | (with_reducible assumption) | assumption)
                    obtain ⟨ad408, e408, hx408_0, hx408_1, hx408_2, hx408_3, hx408_4, hx408_5, hx408_6, hx408_7, hx408_8⟩ := at_T109 HR0.out x7_1 p408 q408
                    (try rw [← Nbq14.out] at hx408_3)
                    (try rw [← Nbq14.out] at hx408_8)
                    cases e408
                    replace hx408_0 := (HB.out.cell (World.block_lt_of_cell? w _ hx408_0)).trans hx408_0
                    replace hx408_1 := (HB.out.cell (World.block_lt_of_cell? w _ hx408_1)).trans hx408_1
                    replace hx408_2 := (HB.out.cell (World.block_lt_of_cell? w _ hx408_2)).trans hx408_2
                    replace hx408_3 := (HB.out.cell (World.block_lt_of_cell? w _ hx408_3)).trans hx408_3
                    replace hx408_4 := (HB.out.cell (World.block_lt_of_cell? w _ hx408_4)).trans hx408_4
                    replace hx408_5 := (HB.out.cell (World.block_lt_of_cell? w _ hx408_5)).trans hx408_5
                    replace hx408_6 := (HB.out.cell (World.block_lt_of_cell? w _ hx408_6)).trans hx408_6
                    replace hx408_7 := (HB.out.cell (World.block_lt_of_cell? w _ hx408_7)).trans hx408_7
                    replace hx408_8 := (HB.out.cell (World.block_lt_of_cell? w _ hx408_8)).trans hx408_8
                    replace p408 := eq_true p408
                    replace q408 := eq_true q408
                    go_wp2_with (first | ((with_reducible refine gate_dst (N := 8) rfl ?_); refine box_event ?hg (N := 8) ?hd (cs := #[.string (⟨#[]⟩ : ByteArray), .string (⟨#[]⟩ : ByteArray), .string (⟨#[]⟩ : ByteArray), .bool false, .string (⟨#[]⟩ : ByteArray), .string (⟨#[]⟩ : ByteArray), .string (⟨#[]⟩ : ByteArray), .string (⟨#[]⟩ : ByteArray), .bool false]) (t := 109) ?hr ?_; (case hd => rfl); (case hg => rfl); (case hr => first | (go_simp; done) | (go_simp; rfl)); intro gb409 hg w52 hbox hb; have n0_ := Aside0.mk (below_step (by repeat (first | (with_reducible first | exact HB.out | apply below_alloc | apply pw_below_drewN | apply below_drew1) | exact HB.out)) hb); have n1_ := Aside0.mk (hbox); have n2_ := Aside0.mk ((by rw [hg]; exact (below_size (by repeat (first | (with_reducible first | exact HB.out | apply below_alloc | apply pw_below_drewN | apply below_drew1) | exact HB.out))) : w.heap.size ≤ gb409)); have n3_ := Aside0.mk ((by rw [hg]; exact (below_size (by repeat (first | (with_reducible first | exact HB.out | apply below_alloc | apply pw_below_drewN | apply below_drew1) | exact HB.out))) : w.heap.size ≤ gb409)); clear HB; have HB := n0_; have BK409 := n1_; have GW409 := n2_; have GE409 := n3_; clear n0_ n1_ n2_ n3_; clear hb hbox hg; have hcz53_0 : w52.cell? ⟨gb409, 0, none⟩ = some (.string (⟨#[]⟩ : ByteArray)) := (blk_cell BK409.out 0).trans rfl; have hcz53_1 : w52.cell? ⟨gb409, 1, none⟩ = some (.string (⟨#[]⟩ : ByteArray)) := (blk_cell BK409.out 1).trans rfl; have hcz53_2 : w52.cell? ⟨gb409, 2, none⟩ = some (.string (⟨#[]⟩ : ByteArray)) := (blk_cell BK409.out 2).trans rfl; have hcz53_3 : w52.cell? ⟨gb409, 3, none⟩ = some (.bool false) := (blk_cell BK409.out 3).trans rfl; have hcz53_4 : w52.cell? ⟨gb409, 4, none⟩ = some (.string (⟨#[]⟩ : ByteArray)) := (blk_cell BK409.out 4).trans rfl; have hcz53_5 : w52.cell? ⟨gb409, 5, none⟩ = some (.string (⟨#[]⟩ : ByteArray)) := (blk_cell BK409.out 5).trans rfl; have hcz53_6 : w52.cell? ⟨gb409, 6, none⟩ = some (.string (⟨#[]⟩ : ByteArray)) := (blk_cell BK409.out 6).trans rfl; have hcz53_7 : w52.cell? ⟨gb409, 7, none⟩ = some (.string (⟨#[]⟩ : ByteArray)) := (blk_cell BK409.out 7).trans rfl; have hcz53_8 : w52.cell? ⟨gb409, 8, none⟩ = some (.bool false) := (blk_cell BK409.out 8).trans rfl; have hfz53_0 := blk_frozen BK409.out 0; have hfz53_1 := blk_frozen BK409.out 1; have hfz53_2 := blk_frozen BK409.out 2; have hfz53_3 := blk_frozen BK409.out 3; have hfz53_4 := blk_frozen BK409.out 4; have hfz53_5 := blk_frozen BK409.out 5; have hfz53_6 := blk_frozen BK409.out 6; have hfz53_7 := blk_frozen BK409.out 7; have hfz53_8 := blk_frozen BK409.out 8))
                    go_roundg k1
                    case measure => have := HK1.out; omega
                    case rel => exact ⟨(x6_1 ++ ((rd_T109 l0 x7_1).f4)), (wrap64 (x7_1 + 1)), (by first | rfl | (simp; done) | (simp [*]; done)), (by first | rfl | (simp; done) | (simp [*]; done)), H', ⟨by have := HK1.out; omega⟩, ⟨by repeat (first | (with_reducible first | exact HB.out | apply below_alloc | apply pw_below_drewN | apply below_drew1 | refine below_set ?_ GE409.out) | exact HB.out)⟩⟩
                · rw [if_neg c13] at H
                  exact absurd H (by simp)
              · rw [if_neg c12] at H
                exact absurd H (by simp)
            · rw [if_neg c11] at H
              have c11b0 : decide (x7_1 < (l0.length : Int)) = false := decide_eq_false c11
              clear c11
              simp only [Option.some.injEq, Prod.mk.injEq] at H
              obtain ⟨rfl, rfl⟩ := H
              go_wp2
              go_ret2
              exact ⟨by first | rfl | (simp [errW_none, errW_some] <;> rfl) | (simp [*, errW_none, errW_some] <;> rfl), by repeat (first | (with_reducible first | exact HB.out | apply below_alloc | apply pw_below_drewN | apply below_drew1) | exact HB.out)⟩
      · replace c8 := Bool.eq_false_iff.mpr c8
        subst c8
        have H1 : (some ((⟨#[]⟩ : ByteArray), 4)) = some (r1, r2) := by rw [if_neg (show ¬ (false = true) by decide)] at H; exact H
        clear H
        have H := H1
        clear H1
        simp only [Option.some.injEq, Prod.mk.injEq] at H
        obtain ⟨rfl, rfl⟩ := H
        go_enter Try.func48, Try.ntmps48
        go_wp2_with (first | ((with_reducible refine gate_callee (f := 90) rfl ?_); refine goesL_ (some 16) rfl rfl Try.func90 (by kernel_rfl) rfl #[.int .i64 a1] rfl (by (try simp only [List.map_toArray, List.map_cons, List.map_nil]); first | done | rfl | (simp only [List.length_drop, List.length_take]; rfl)) ?_; (with_reducible refine (tripartiteref08_wide.calls a1 true _ A3.out).mono ?_); rintro e w' ⟨rfl, ⟨nd, rfl⟩⟩; refine ⟨_, rfl, ?_⟩) | ((with_reducible refine gate_callee (f := 91) rfl ?_); refine goesL_ (some 19) rfl rfl Try.func91 (by kernel_rfl) rfl #[.slice A0 l0.length c0] rfl (by (try simp only [List.map_toArray, List.map_cons, List.map_nil]); first | done | rfl | (simp only [List.length_drop, List.length_take]; rfl)) ?_; (with_reducible refine (tripartiteref07_Right.calls k _ _ l0 true _ ?side1 ?side2 A5.out).mono ?_); (case side1 => repeat (first | exact HR0.out | (with_reducible refine Kd.C_alloc ?_ _) | (with_reducible refine Kd.C_drewN ?_ _) | (with_reducible refine Kd.C_drew ?_))); (case side2 => exact HC0.out); rintro e w54 ⟨rfl, hb⟩; refine ⟨_, rfl, ?_⟩; have n0_ := Aside0.mk (below_step (by repeat (first | (with_reducible first | exact HB.out | apply below_alloc | apply pw_below_drewN | apply below_drew1) | exact HB.out)) hb); clear HB; have HB := n0_; clear n0_; (try clear hb); (try clear hb2); (try clear hk); (try clear hi)) | ((with_reducible refine gate_callee (f := 92) rfl ?_); refine goesL_ (some 23) rfl rfl Try.func92 (by kernel_rfl) rfl #[.slice A0 l0.length c0, .int .i64 a1] rfl (by (try simp only [List.map_toArray, List.map_cons, List.map_nil]); first | done | rfl | (simp only [List.length_drop, List.length_take]; rfl)) ?_; (with_reducible refine (tripartiteref07_Fits.calls k _ _ l0 a1 false _ ?side1 ?side2 A7.out).mono ?_); (case side1 => repeat (first | exact (Kd.C_below HR0.out HB.out) | (with_reducible refine Kd.C_alloc ?_ _) | (with_reducible refine Kd.C_drewN ?_ _) | (with_reducible refine Kd.C_drew ?_))); (case side2 => exact HC0.out); rintro e w55 ⟨rfl, hb⟩; refine ⟨_, rfl, ?_⟩; have n0_ := Aside0.mk (below_step (by repeat (first | (with_reducible first | exact HB.out | apply below_alloc | apply pw_below_drewN | apply below_drew1) | exact HB.out)) hb); clear HB; have HB := n0_; clear n0_; (try clear hb); (try clear hb2); (try clear hk); (try clear hi)))
        go_ret2
        exact ⟨by first | rfl | (simp [errW_none, errW_some] <;> rfl) | (simp [*, errW_none, errW_some] <;> rfl), by repeat (first | (with_reducible first | exact HB.out | apply below_alloc | apply pw_below_drewN | apply below_drew1) | exact HB.out)⟩
    · replace c6 := Bool.eq_false_iff.mpr c6
      subst c6
      have H1 : (some ((⟨#[]⟩ : ByteArray), 11)) = some (r1, r2) := by rw [if_neg (show ¬ (false = true) by decide)] at H; exact H
      clear H
      have H := H1
      clear H1
      simp only [Option.some.injEq, Prod.mk.injEq] at H
      obtain ⟨rfl, rfl⟩ := H
      go_enter Try.func48, Try.ntmps48
      go_wp2_with (first | ((with_reducible refine gate_callee (f := 90) rfl ?_); refine goesL_ (some 16) rfl rfl Try.func90 (by kernel_rfl) rfl #[.int .i64 a1] rfl (by (try simp only [List.map_toArray, List.map_cons, List.map_nil]); first | done | rfl | (simp only [List.length_drop, List.length_take]; rfl)) ?_; (with_reducible refine (tripartiteref08_wide.calls a1 true _ A3.out).mono ?_); rintro e w' ⟨rfl, ⟨nd, rfl⟩⟩; refine ⟨_, rfl, ?_⟩) | ((with_reducible refine gate_callee (f := 91) rfl ?_); refine goesL_ (some 19) rfl rfl Try.func91 (by kernel_rfl) rfl #[.slice A0 l0.length c0] rfl (by (try simp only [List.map_toArray, List.map_cons, List.map_nil]); first | done | rfl | (simp only [List.length_drop, List.length_take]; rfl)) ?_; (with_reducible refine (tripartiteref07_Right.calls k _ _ l0 false _ ?side1 ?side2 A5.out).mono ?_); (case side1 => repeat (first | exact HR0.out | (with_reducible refine Kd.C_alloc ?_ _) | (with_reducible refine Kd.C_drewN ?_ _) | (with_reducible refine Kd.C_drew ?_))); (case side2 => exact HC0.out); rintro e w56 ⟨rfl, hb⟩; refine ⟨_, rfl, ?_⟩; have n0_ := Aside0.mk (below_step (by repeat (first | (with_reducible first | exact HB.out | apply below_alloc | apply pw_below_drewN | apply below_drew1) | exact HB.out)) hb); clear HB; have HB := n0_; clear n0_; (try clear hb); (try clear hb2); (try clear hk); (try clear hi)))
      go_ret2
      exact ⟨by first | rfl | (simp [errW_none, errW_some] <;> rfl) | (simp [*, errW_none, errW_some] <;> rfl), by repeat (first | (with_reducible first | exact HB.out | apply below_alloc | apply pw_below_drewN | apply below_drew1) | exact HB.out)⟩
  · replace c4 := Bool.eq_false_iff.mpr c4
    subst c4
    have H1 : (some ((⟨#[]⟩ : ByteArray), 4)) = some (r1, r2) := by rw [if_neg (show ¬ (false = true) by decide)] at H; exact H
    clear H
    have H := H1
    clear H1
    simp only [Option.some.injEq, Prod.mk.injEq] at H
    obtain ⟨rfl, rfl⟩ := H
    go_enter Try.func48, Try.ntmps48
    go_wp2_with (first | ((with_reducible refine gate_callee (f := 90) rfl ?_); refine goesL_ (some 16) rfl rfl Try.func90 (by kernel_rfl) rfl #[.int .i64 a1] rfl (by (try simp only [List.map_toArray, List.map_cons, List.map_nil]); first | done | rfl | (simp only [List.length_drop, List.length_take]; rfl)) ?_; (with_reducible refine (tripartiteref08_wide.calls a1 false _ A3.out).mono ?_); rintro e w' ⟨rfl, ⟨nd, rfl⟩⟩; refine ⟨_, rfl, ?_⟩))
    go_ret2
    exact ⟨by first | rfl | (simp [errW_none, errW_some] <;> rfl) | (simp [*, errW_none, errW_some] <;> rfl), by repeat (first | (with_reducible first | exact HB.out | apply below_alloc | apply pw_below_drewN | apply below_drew1) | exact HB.out)⟩
end Go.Proofs.Ytfiamddinkokbaa.F
end
