/- Texts joined into one file (wip/tools/pack.py): Fn32, Fn44, Fn41, Pure01, Fn21, Pure07, PureOf, PureDocJoins -/
import Derived.Test.YtfiamddinkokbaaDJ1
import Derived.Test.YtfiamddinkokbaaDJ3
import Derived.Test.YtfiamddinkokbaaDJ2
section
set_option linter.unusedVariables false
set_option linter.unusedSimpArgs false
namespace Go.Proofs.Ytfiamddinkokbaa.F
open Go.RowKit Go.Proofs.YtfiamddinkokbaaW.PrintWords Go.Proofs.YtfiamddinkokbaaW.PrintLast Go.Proofs.YtfiamddinkokbaaW.PrintMore
attribute [local go_sem] max2_int min2_int max_two min_two max_three min_three max_four min_four
set_option linter.unusedVariables false
set_option linter.unusedSimpArgs false
def tripartiteref01_Split.l0 : Nat → ByteArray → List ByteArray → Int → Int → Option (List ByteArray)
  | 0, _, _, _, _ => none
  | k + 1, x0, x3, x4, x5 => if x5 < (x0.size : Int) then (if 0 ≤ x5 then (if (bt x0 x5) = 10 then (if 0 ≤ x4 then (if x4 ≤ (wrap64 (x5 + 1)) then (if (wrap64 (x5 + 1)) ≤ (x0.size : Int) then (if x3.length < 8796093022208 then (tripartiteref01_Split.l0 k x0 (x3 ++ [x0.extract (x4 : Int).toNat ((wrap64 (x5 + 1)) : Int).toNat]) (wrap64 (x5 + 1)) (wrap64 (x5 + 1))) else (none)) else (none)) else (none)) else (none)) else (if (wrap64 (x5 + 1)) = (x0.size : Int) then (if 0 ≤ x4 then (if x4 ≤ (wrap64 (x5 + 1)) then (if (wrap64 (x5 + 1)) ≤ (x0.size : Int) then (if x3.length < 8796093022208 then (tripartiteref01_Split.l0 k x0 (x3 ++ [x0.extract (x4 : Int).toNat ((wrap64 (x5 + 1)) : Int).toNat]) (wrap64 (x5 + 1)) (wrap64 (x5 + 1))) else (none)) else (none)) else (none)) else (none)) else (tripartiteref01_Split.l0 k x0 x3 x4 (wrap64 (x5 + 1))))) else (none)) else (some x3)
def tripartiteref01_Split.f (k : Nat) (a0 : ByteArray) : Option (List ByteArray) := tripartiteref01_Split.l0 k a0 ([] : List ByteArray) 0 0
theorem tripartiteref01_Split.mono_l : ∀ k, (∀ y0 y1 y2 y3, LeO (tripartiteref01_Split.l0 k y0 y1 y2 y3) (tripartiteref01_Split.l0 (k + 1) y0 y1 y2 y3))
  | 0 => fun _ _ _ _ r h => by simp [tripartiteref01_Split.l0] at h
  | k + 1 => by
    have ih0 := tripartiteref01_Split.mono_l k
    · intro y0 y1 y2 y3
      unfold tripartiteref01_Split.l0
      repeat' first
      | (with_reducible exact ih0 _ _ _ _)
      | (with_reducible exact LeO.refl _)
      | (with_reducible exact LeO.none _)
      | (with_reducible refine LeO.ite ?_ ?_)
      | (with_reducible refine LeO.bind ?_ (fun _ => ?_))
      | exact ih0 _ _ _ _
      | exact LeO.none _
      | refine LeO.ite ?_ ?_
      | refine LeO.bind ?_ (fun _ => ?_)
theorem tripartiteref01_Split.mono : ∀ a0 k, LeO (tripartiteref01_Split.f k a0) (tripartiteref01_Split.f (k + 1) a0) := by
  intro a0 k
  have ih0 := tripartiteref01_Split.mono_l k
  unfold tripartiteref01_Split.f
  repeat' first
      | (with_reducible exact ih0 _ _ _ _)
      | (with_reducible exact LeO.refl _)
      | (with_reducible exact LeO.none _)
      | (with_reducible refine LeO.ite ?_ ?_)
      | (with_reducible refine LeO.bind ?_ (fun _ => ?_))
      | exact ih0 _ _ _ _
      | exact LeO.none _
      | refine LeO.ite ?_ ?_
      | refine LeO.bind ?_ (fun _ => ?_)
set_option maxHeartbeats 8000000 in
set_option maxRecDepth 100000 in
theorem tripartiteref01_Split.calls (k : Nat) (a0 : ByteArray) (r : List ByteArray) (w : World) (h : tripartiteref01_Split.f k a0 = some r) :
    Calls Try.prog 32 #[.string a0] w fun e w' => ∃ v0_ : Value, e = .returned (v0_) ∧ Kd.R Kd.string 9 w' w.heap.size (fun _ => True) v0_ r ∧ Below w.heap.size w w' := by
  have HB := Aside0.mk (Below.refl w.heap.size w)
  have H : (tripartiteref01_Split.l0 k a0 ([] : List ByteArray) 0 0) = some r := h
  clear h
  have H' := Aside0.mk H
  clear H
  go_enter Try.func32, Try.ntmps32
  go_wp2
  go_loopg [3, 4, 5] k (fun kq v3 v4 v5 w' => ∃ (x3_1 : List ByteArray) (x4_1 : Int) (x5_1 : Int), v4 = .int .i64 x4_1 ∧ v5 = .int .i64 x5_1 ∧ Aside0 (tripartiteref01_Split.l0 kq a0 x3_1 x4_1 x5_1 = some r) ∧ Aside0 (kq ≤ k) ∧ Aside0 (Kd.R Kd.string 9 w' w.heap.size (fun _ => True) v3 x3_1) ∧ Aside0 (Below w.heap.size w w'))
  case atStart => exact ⟨(([] : List ByteArray)), (0), (0), (by first | rfl | (simp; done) | (simp [*]; done)), (by first | rfl | (simp; done) | (simp [*]; done)), H', ⟨Nat.le_refl _⟩, ⟨by first | exact Kd.R_nil _ _ _ _ _ | exact Kd.N_nil _ _ _ _ _ | exact Kd.V_nil _ _ _ _ _ | exact Kd.Q_nil _ _ _ _ _ | exact Kd.S_nil _ _ _ _ _⟩, ⟨by repeat (first | (with_reducible first | exact HB.out | apply below_alloc | apply pw_below_drewN | apply below_drew1) | exact HB.out)⟩⟩
  case round =>
    clear H'
    obtain ⟨x3_1, x4_1, x5_1, rfl, rfl, HA, HK1, HO_3, HB⟩ := hrel
    cases gk with
    | zero => exact absurd HA.out (by simp [tripartiteref01_Split.l0])
    | succ k1 =>
      have H := HA.out
      clear HA
      simp only [tripartiteref01_Split.l0] at H
      by_cases c2 : x5_1 < (a0.size : Int)
      · rw [if_pos c2] at H
        have c2b0 : decide (x5_1 < (a0.size : Int)) = true := decide_eq_true c2
        clear c2
        by_cases c3 : 0 ≤ x5_1
        · rw [if_pos c3] at H
          have c3b0 : decide (0 ≤ x5_1) = true := decide_eq_true c3
          clear c3
          by_cases c5 : (bt a0 x5_1) = 10
          · rw [if_pos c5] at H
            have c5b0 : ((bt a0 x5_1) == 10) = true := beq_iff_eq.mpr c5
            have c5b1 : ((bt a0 x5_1) != 10) = false := bne_eq_false_iff_eq.mpr c5
            clear c5
            by_cases c6 : 0 ≤ x4_1
            · rw [if_pos c6] at H
              have c6b0 := eq_true c6
              have c6b1 : decide (0 ≤ x4_1) = true := decide_eq_true c6
              clear c6
              by_cases c7 : x4_1 ≤ (wrap64 (x5_1 + 1))
              · rw [if_pos c7] at H
                have c7b0 := eq_true c7
                have c7b1 : decide (x4_1 ≤ (wrap64 (x5_1 + 1))) = true := decide_eq_true c7
                by_cases c8 : (wrap64 (x5_1 + 1)) ≤ (a0.size : Int)
                · rw [if_pos c8] at H
                  have c8b0 := eq_true c8
                  have c8b1 : decide ((wrap64 (x5_1 + 1)) ≤ (a0.size : Int)) = true := decide_eq_true c8
                  by_cases c9 : x3_1.length < 8796093022208
                  · rw [if_pos c9] at H
                    have LMc9 := Aside0.mk c9
                    clear c9
                    obtain ⟨y168, hy168⟩ : ∃ y_ : List ByteArray, y_ = (x3_1 ++ [a0.extract (x4_1 : Int).toNat ((wrap64 (x5_1 + 1)) : Int).toNat]) := ⟨_, rfl⟩
                    replace H : (tripartiteref01_Split.l0 k1 a0 y168 (wrap64 (x5_1 + 1)) (wrap64 (x5_1 + 1))) = some r := by first | (rw [hy168]; with_reducible exact H) | (have H2_ := (Option.bind_some _ _).symm.trans H; rw [hy168]; with_reducible exact H2_) | (have H2_ := (Option.bind_some _ _).symm.trans H; with_reducible exact H2_) | with_reducible exact H | (rw [hy168]; exact H) | exact H
                    have Ny168 := Aside0.mk hy168
                    clear hy168
                    have H' := Aside0.mk H
                    clear H
                    have p4 : 0 ≤ (x5_1 : Int) := of_decide_eq_true (by first | (with_reducible assumption) | assumption)
                    have q4 : x5_1 < (a0.size : Int) := of_decide_eq_true (by first | (with_reducible assumption) | assumption)
                    have hx4 := bt_at a0 x5_1
                    replace p4 := eq_true p4
                    replace q4 := eq_true q4
                    go_wp2_with (first | ((with_reducible refine gate_builtin (b := .append) (xs := #[.tmp 23, .tmp 29]) rfl ?_); (try (refine gate_guard (by rfl) ?_; dsimp only)); at_builtin; refine Kd.R_append Kd.string (w0 := w) w.heap.size rfl (.tmp 23) (.tmp 29) 36 9 (.string ⟨#[]⟩) 16 rfl Try.underlying36 info9 rfl (by decide) (by omega) u3 x3_1 (a0.extract (x4_1 : Int).toNat ((wrap64 (x5_1 + 1)) : Int).toNat) [.string (a0.extract (x4_1 : Int).toNat ((wrap64 (x5_1 + 1)) : Int).toNat)] (fun _ => True) (fun _ => False) rfl rfl ?aP (fun _ hk => hk.elim) ?aF ?aO ?aB ?aS ?aL ?_; (case aP => exact rfl); (case aB => exact (by repeat (first | (with_reducible first | exact HB.out | apply below_alloc | apply pw_below_drewN | apply below_drew1) | exact HB.out))); (case aF => exact (fun _ _ => trivial)); (case aO => exact (by (with_reducible repeat (first | apply Kd.R_alloc | apply Kd.R_drewN | apply Kd.R_drew)); exact HO_3.out)); (case aS => exact (below_size (by repeat (first | (with_reducible first | exact HB.out | apply below_alloc | apply pw_below_drewN | apply below_drew1) | exact HB.out)))); (case aL => have := LMc9.out; omega); intro v169 w10 ho hb hg hat; rw [← Ny168.out] at ho; have n0_ := Aside0.mk (hb); have n1_ := Aside0.mk (ho); clear HB; clear HO_3; have HB := n0_; have HO170 := n1_; clear n0_ n1_; clear ho hb hg hat))
                    go_roundg k1
                    case measure => have := HK1.out; omega
                    case rel => exact ⟨(y168), (wrap64 (x5_1 + 1)), (wrap64 (x5_1 + 1)), (by first | rfl | (simp; done) | (simp [*]; done)), (by first | rfl | (simp; done) | (simp [*]; done)), H', ⟨by have := HK1.out; omega⟩, ⟨by (with_reducible repeat (first | apply Kd.R_alloc | apply Kd.R_drewN | apply Kd.R_drew)); exact HO170.out⟩, ⟨by repeat (first | (with_reducible first | exact HB.out | apply below_alloc | apply pw_below_drewN | apply below_drew1) | exact HB.out)⟩⟩
                  · rw [if_neg c9] at H
                    exact absurd H (by simp)
                · rw [if_neg c8] at H
                  exact absurd H (by simp)
              · rw [if_neg c7] at H
                exact absurd H (by simp)
            · rw [if_neg c6] at H
              exact absurd H (by simp)
          · rw [if_neg c5] at H
            have c5b0 : ((bt a0 x5_1) == 10) = false := beq_eq_false_iff_ne.mpr c5
            have c5b1 : ((bt a0 x5_1) != 10) = true := bne_iff_ne.mpr c5
            by_cases c11 : (wrap64 (x5_1 + 1)) = (a0.size : Int)
            · rw [if_pos c11] at H
              have c11b0 : ((wrap64 (x5_1 + 1)) == (a0.size : Int)) = true := beq_iff_eq.mpr c11
              have c11b1 : ((wrap64 (x5_1 + 1)) != (a0.size : Int)) = false := bne_eq_false_iff_eq.mpr c11
              clear c11
              by_cases c12 : 0 ≤ x4_1
              · rw [if_pos c12] at H
                have c12b0 := eq_true c12
                have c12b1 : decide (0 ≤ x4_1) = true := decide_eq_true c12
                clear c12
                by_cases c13 : x4_1 ≤ (wrap64 (x5_1 + 1))
                · rw [if_pos c13] at H
                  have c13b0 := eq_true c13
                  have c13b1 : decide (x4_1 ≤ (wrap64 (x5_1 + 1))) = true := decide_eq_true c13
                  by_cases c14 : (wrap64 (x5_1 + 1)) ≤ (a0.size : Int)
                  · rw [if_pos c14] at H
                    have c14b0 := eq_true c14
                    have c14b1 : decide ((wrap64 (x5_1 + 1)) ≤ (a0.size : Int)) = true := decide_eq_true c14
                    by_cases c15 : x3_1.length < 8796093022208
                    · rw [if_pos c15] at H
                      have LMc15 := Aside0.mk c15
                      clear c15
                      obtain ⟨y171, hy171⟩ : ∃ y_ : List ByteArray, y_ = (x3_1 ++ [a0.extract (x4_1 : Int).toNat ((wrap64 (x5_1 + 1)) : Int).toNat]) := ⟨_, rfl⟩
                      replace H : (tripartiteref01_Split.l0 k1 a0 y171 (wrap64 (x5_1 + 1)) (wrap64 (x5_1 + 1))) = some r := by first | (rw [hy171]; with_reducible exact H) | (have H2_ := (Option.bind_some _ _).symm.trans H; rw [hy171]; with_reducible exact H2_) | (have H2_ := (Option.bind_some _ _).symm.trans H; with_reducible exact H2_) | with_reducible exact H | (rw [hy171]; exact H) | exact H
                      have Ny171 := Aside0.mk hy171
                      clear hy171
                      have H' := Aside0.mk H
                      clear H
                      have p4 : 0 ≤ (x5_1 : Int) := of_decide_eq_true (by first | (with_reducible assumption) | assumption)
                      have q4 : x5_1 < (a0.size : Int) := of_decide_eq_true (by first | (with_reducible assumption) | assumption)
                      have hx4 := bt_at a0 x5_1
                      replace p4 := eq_true p4
                      replace q4 := eq_true q4
                      go_wp2_with (first | ((with_reducible refine gate_builtin (b := .append) (xs := #[.tmp 23, .tmp 29]) rfl ?_); (try (refine gate_guard (by rfl) ?_; dsimp only)); at_builtin; refine Kd.R_append Kd.string (w0 := w) w.heap.size rfl (.tmp 23) (.tmp 29) 36 9 (.string ⟨#[]⟩) 16 rfl Try.underlying36 info9 rfl (by decide) (by omega) u3 x3_1 (a0.extract (x4_1 : Int).toNat ((wrap64 (x5_1 + 1)) : Int).toNat) [.string (a0.extract (x4_1 : Int).toNat ((wrap64 (x5_1 + 1)) : Int).toNat)] (fun _ => True) (fun _ => False) rfl rfl ?aP (fun _ hk => hk.elim) ?aF ?aO ?aB ?aS ?aL ?_; (case aP => exact rfl); (case aB => exact (by repeat (first | (with_reducible first | exact HB.out | apply below_alloc | apply pw_below_drewN | apply below_drew1) | exact HB.out))); (case aF => exact (fun _ _ => trivial)); (case aO => exact (by (with_reducible repeat (first | apply Kd.R_alloc | apply Kd.R_drewN | apply Kd.R_drew)); exact HO_3.out)); (case aS => exact (below_size (by repeat (first | (with_reducible first | exact HB.out | apply below_alloc | apply pw_below_drewN | apply below_drew1) | exact HB.out)))); (case aL => have := LMc15.out; omega); intro v172 w16 ho hb hg hat; rw [← Ny171.out] at ho; have n0_ := Aside0.mk (hb); have n1_ := Aside0.mk (ho); clear HB; clear HO_3; have HB := n0_; have HO173 := n1_; clear n0_ n1_; clear ho hb hg hat))
                      go_roundg k1
                      case measure => have := HK1.out; omega
                      case rel => exact ⟨(y171), (wrap64 (x5_1 + 1)), (wrap64 (x5_1 + 1)), (by first | rfl | (simp; done) | (simp [*]; done)), (by first | rfl | (simp; done) | (simp [*]; done)), H', ⟨by have := HK1.out; omega⟩, ⟨by (with_reducible repeat (first | apply Kd.R_alloc | apply Kd.R_drewN | apply Kd.R_drew)); exact HO173.out⟩, ⟨by repeat (first | (with_reducible first | exact HB.out | apply below_alloc | apply pw_below_drewN | apply below_drew1) | exact HB.out)⟩⟩
                    · rw [if_neg c15] at H
                      exact absurd H (by simp)
                  · rw [if_neg c14] at H
                    exact absurd H (by simp)
                · rw [if_neg c13] at H
                  exact absurd H (by simp)
              · rw [if_neg c12] at H
                exact absurd H (by simp)
            · rw [if_neg c11] at H
              have c11b0 : ((wrap64 (x5_1 + 1)) == (a0.size : Int)) = false := beq_eq_false_iff_ne.mpr c11
              have c11b1 : ((wrap64 (x5_1 + 1)) != (a0.size : Int)) = true := bne_iff_ne.mpr c11
              have H' := Aside0.mk H
              clear H
              have p4 : 0 ≤ (x5_1 : Int) := of_decide_eq_true (by first | (with_reducible assumption) | assumption)
              have q4 : x5_1 < (a0.size : Int) := of_decide_eq_true (by first | (with_reducible assumption) | assumption)
              have hx4 := bt_at a0 x5_1
              replace p4 := eq_true p4
              replace q4 := eq_true q4
              go_wp2
              go_roundg k1
              case measure => have := HK1.out; omega
              case rel => exact ⟨(x3_1), (x4_1), (wrap64 (x5_1 + 1)), (by first | rfl | (simp; done) | (simp [*]; done)), (by first | rfl | (simp; done) | (simp [*]; done)), H', ⟨by have := HK1.out; omega⟩, ⟨by (with_reducible repeat (first | apply Kd.R_alloc | apply Kd.R_drewN | apply Kd.R_drew)); exact HO_3.out⟩, ⟨by repeat (first | (with_reducible first | exact HB.out | apply below_alloc | apply pw_below_drewN | apply below_drew1) | exact HB.out)⟩⟩
        · rw [if_neg c3] at H
          exact absurd H (by simp)
      · rw [if_neg c2] at H
        have c2b0 : decide (x5_1 < (a0.size : Int)) = false := decide_eq_false c2
        clear c2
        obtain rfl := Option.some.inj H
        go_wp2
        go_ret
        exact ⟨_, by first | rfl | (simp [errW_none, errW_some] <;> rfl) | (simp [*, errW_none, errW_some] <;> rfl), by (with_reducible repeat (first | apply Kd.R_alloc | apply Kd.R_drewN | apply Kd.R_drew)); exact HO_3.out, by repeat (first | (with_reducible first | exact HB.out | apply below_alloc | apply pw_below_drewN | apply below_drew1) | exact HB.out)⟩
end Go.Proofs.Ytfiamddinkokbaa.F
end

section
set_option linter.unusedVariables false
set_option linter.unusedSimpArgs false
namespace Go.Proofs.Ytfiamddinkokbaa.F
open Go.RowKit Go.Proofs.YtfiamddinkokbaaW.PrintWords Go.Proofs.YtfiamddinkokbaaW.PrintLast Go.Proofs.YtfiamddinkokbaaW.PrintMore
attribute [local go_sem] max2_int min2_int max_two min_two max_three min_three max_four min_four
set_option linter.unusedVariables false
set_option linter.unusedSimpArgs false
mutual
def tripartiteref01_Run.j0 : Nat → ByteArray → Bool → Option (Int)
  | 0, _, _ => none
  | k + 1, x0, x25 => if x25 = true then (some 0) else (tripartiteref01_Run.l0 k x0 0)
def tripartiteref01_Run.l0 : Nat → ByteArray → Int → Option (Int)
  | 0, _, _ => none
  | k + 1, x0, x3 => if x3 < (x0.size : Int) then (if 0 ≤ x3 then (if 0 < (x0.size : Int) then (if (bt x0 x3) = (bt x0 0) then (tripartiteref01_Run.l0 k x0 (wrap64 (x3 + 1))) else (some x3)) else (none)) else (none)) else (some x3)
end
def tripartiteref01_Run.f (k : Nat) (a0 : ByteArray) : Option (Int) := if a0.toList = ([] : List UInt8) then (tripartiteref01_Run.j0 k a0 true) else (if 0 < (a0.size : Int) then (if (bt a0 0) = 60 then (tripartiteref01_Run.j0 k a0 false) else (if (bt a0 0) = 124 then (tripartiteref01_Run.j0 k a0 false) else (if (bt a0 0) = 61 then (tripartiteref01_Run.j0 k a0 false) else (tripartiteref01_Run.j0 k a0 ((bt a0 0) != 62))))) else (none))
theorem tripartiteref01_Run.mono_l : ∀ k, (∀ y0 y1, LeO (tripartiteref01_Run.j0 k y0 y1) (tripartiteref01_Run.j0 (k + 1) y0 y1)) ∧ (∀ y0 y1, LeO (tripartiteref01_Run.l0 k y0 y1) (tripartiteref01_Run.l0 (k + 1) y0 y1))
  | 0 => ⟨fun _ _ r h => by simp [tripartiteref01_Run.j0] at h, fun _ _ r h => by simp [tripartiteref01_Run.l0] at h⟩
  | k + 1 => by
    obtain ⟨ih0, ih1⟩ := tripartiteref01_Run.mono_l k
    refine ⟨?_, ?_⟩
    · intro y0 y1
      unfold tripartiteref01_Run.j0
      repeat' first
      | (with_reducible exact ih0 _ _)
      | (with_reducible exact ih1 _ _)
      | (with_reducible exact LeO.refl _)
      | (with_reducible exact LeO.none _)
      | (with_reducible refine LeO.ite ?_ ?_)
      | (with_reducible refine LeO.bind ?_ (fun _ => ?_))
      | exact ih0 _ _
      | exact ih1 _ _
      | exact LeO.none _
      | refine LeO.ite ?_ ?_
      | refine LeO.bind ?_ (fun _ => ?_)
    · intro y0 y1
      unfold tripartiteref01_Run.l0
      repeat' first
      | (with_reducible exact ih0 _ _)
      | (with_reducible exact ih1 _ _)
      | (with_reducible exact LeO.refl _)
      | (with_reducible exact LeO.none _)
      | (with_reducible refine LeO.ite ?_ ?_)
      | (with_reducible refine LeO.bind ?_ (fun _ => ?_))
      | exact ih0 _ _
      | exact ih1 _ _
      | exact LeO.none _
      | refine LeO.ite ?_ ?_
      | refine LeO.bind ?_ (fun _ => ?_)
theorem tripartiteref01_Run.mono : ∀ a0 k, LeO (tripartiteref01_Run.f k a0) (tripartiteref01_Run.f (k + 1) a0) := by
  intro a0 k
  obtain ⟨ih0, ih1⟩ := tripartiteref01_Run.mono_l k
  unfold tripartiteref01_Run.f
  repeat' first
      | (with_reducible exact ih0 _ _)
      | (with_reducible exact ih1 _ _)
      | (with_reducible exact LeO.refl _)
      | (with_reducible exact LeO.none _)
      | (with_reducible refine LeO.ite ?_ ?_)
      | (with_reducible refine LeO.bind ?_ (fun _ => ?_))
      | exact ih0 _ _
      | exact ih1 _ _
      | exact LeO.none _
      | refine LeO.ite ?_ ?_
      | refine LeO.bind ?_ (fun _ => ?_)
set_option maxHeartbeats 8000000 in
set_option maxRecDepth 100000 in
theorem tripartiteref01_Run.calls (k : Nat) (a0 : ByteArray) (r : Int) (w : World) (h : tripartiteref01_Run.f k a0 = some r) :
    Calls Try.prog 44 #[.string a0] w fun e w' => e = .returned (.int .i64 r) ∧ Drawn0 w w' := by
  have H : (if a0.toList = ([] : List UInt8) then (tripartiteref01_Run.j0 k a0 true) else (if 0 < (a0.size : Int) then (if (bt a0 0) = 60 then (tripartiteref01_Run.j0 k a0 false) else (if (bt a0 0) = 124 then (tripartiteref01_Run.j0 k a0 false) else (if (bt a0 0) = 61 then (tripartiteref01_Run.j0 k a0 false) else (tripartiteref01_Run.j0 k a0 ((bt a0 0) != 62))))) else (none))) = some r := h
  clear h
  have HC2 := Aside0.mk H
  clear H
  go_enter Try.func44, Try.ntmps44
  go_upto_region 1 with (fail)
  repeat (go_quiet (fail); go_upto_region 1 with (fail))
  go_cut [25] (fun v25 wc => ∃ (kq : Nat) (x25_1 : Bool), v25 = .bool x25_1 ∧ Aside0 (tripartiteref01_Run.j0 kq a0 x25_1 = some r) ∧ Aside0 (kq ≤ k) ∧ Drawn0 w wc)
  case first =>
    have H := HC2.out
    clear HC2
    by_cases c3 : a0.toList = ([] : List UInt8)
    · rw [if_pos c3] at H
      have c3b0 : (a0.toList == ([] : List UInt8)) = true := beq_iff_eq.mpr c3
      have c3b1 : (a0.toList != ([] : List UInt8)) = false := bne_eq_false_iff_eq.mpr c3
      clear c3
      (first | rw [c3b0] | (simp only [i64_w, i32_w]; rw [c3b0]) | skip)
      have H' := Aside0.mk H
      clear H
      go_wp2
      repeat (go_quiet (fail); try go_wp2)
      go_meet
      case rel => exact ⟨_, (true), (by first | rfl | (simp; done) | (simp [*]; done)), H', ⟨by first | omega | exact Nat.le_refl _⟩, by repeat (first | exact Drawn0.refl _ | apply Drawn0.step)⟩
    · rw [if_neg c3] at H
      have c3b0 : (a0.toList == ([] : List UInt8)) = false := beq_eq_false_iff_ne.mpr c3
      have c3b1 : (a0.toList != ([] : List UInt8)) = true := bne_iff_ne.mpr c3
      (first | rw [c3b0] | (simp only [i64_w, i32_w]; rw [c3b0]) | skip)
      by_cases c4 : 0 < (a0.size : Int)
      · rw [if_pos c4] at H
        have c4b0 : decide (0 < (a0.size : Int)) = true := decide_eq_true c4
        have c4b1 : decide (0 < a0.size) = true := decide_eq_true (by omega)
        clear c4
        by_cases c6 : (bt a0 0) = 60
        · rw [if_pos c6] at H
          have c6b0 : ((bt a0 0) == 60) = true := beq_iff_eq.mpr c6
          have c6b1 : ((bt a0 0) != 60) = false := bne_eq_false_iff_eq.mpr c6
          clear c6
          have H' := Aside0.mk H
          clear H
          have p5 : 0 ≤ (0 : Int) := (by omega)
          have q5 : 0 < a0.size := (by have : (0 : Int) < (a0.size : Int) := of_decide_eq_true (by first | (with_reducible assumption) | assumption); omega)
          have hx5 : ∀ h : 0 < a0.size, ((a0[0]'h).toNat : Int) = bt a0 0 := bt_at a0 0
          clear p5
          have qi5 : (0 < (a0.size : Int)) = True := eq_true (of_decide_eq_true (by first | (with_reducible assumption) | assumption))
          replace q5 := eq_true q5
          go_wp2
          repeat (go_quiet (fail); try go_wp2)
          go_meet
          case rel => exact ⟨_, (false), (by first | rfl | (simp; done) | (simp [*]; done)), H', ⟨by first | omega | exact Nat.le_refl _⟩, by repeat (first | exact Drawn0.refl _ | apply Drawn0.step)⟩
        · rw [if_neg c6] at H
          have c6b0 : ((bt a0 0) == 60) = false := beq_eq_false_iff_ne.mpr c6
          have c6b1 : ((bt a0 0) != 60) = true := bne_iff_ne.mpr c6
          by_cases c8 : (bt a0 0) = 124
          · rw [if_pos c8] at H
            have c8b0 : ((bt a0 0) == 124) = true := beq_iff_eq.mpr c8
            have c8b1 : ((bt a0 0) != 124) = false := bne_eq_false_iff_eq.mpr c8
            clear c8
            have H' := Aside0.mk H
            clear H
            have p5 : 0 ≤ (0 : Int) := (by omega)
            have q5 : 0 < a0.size := (by have : (0 : Int) < (a0.size : Int) := of_decide_eq_true (by first | (with_reducible assumption) | assumption); omega)
            have hx5 : ∀ h : 0 < a0.size, ((a0[0]'h).toNat : Int) = bt a0 0 := bt_at a0 0
            clear p5
            have qi5 : (0 < (a0.size : Int)) = True := eq_true (of_decide_eq_true (by first | (with_reducible assumption) | assumption))
            replace q5 := eq_true q5
            have p7 : 0 ≤ (0 : Int) := (by omega)
            have q7 : 0 < a0.size := (by have : (0 : Int) < (a0.size : Int) := of_decide_eq_true (by first | (with_reducible assumption) | assumption); omega)
            have hx7 : ∀ h : 0 < a0.size, ((a0[0]'h).toNat : Int) = bt a0 0 := bt_at a0 0
            clear p7
            have qi7 : (0 < (a0.size : Int)) = True := eq_true (of_decide_eq_true (by first | (with_reducible assumption) | assumption))
            replace q7 := eq_true q7
            go_wp2
            repeat (go_quiet (fail); try go_wp2)
            go_meet
            case rel => exact ⟨_, (false), (by first | rfl | (simp; done) | (simp [*]; done)), H', ⟨by first | omega | exact Nat.le_refl _⟩, by repeat (first | exact Drawn0.refl _ | apply Drawn0.step)⟩
          · rw [if_neg c8] at H
            have c8b0 : ((bt a0 0) == 124) = false := beq_eq_false_iff_ne.mpr c8
            have c8b1 : ((bt a0 0) != 124) = true := bne_iff_ne.mpr c8
            by_cases c10 : (bt a0 0) = 61
            · rw [if_pos c10] at H
              have c10b0 : ((bt a0 0) == 61) = true := beq_iff_eq.mpr c10
              have c10b1 : ((bt a0 0) != 61) = false := bne_eq_false_iff_eq.mpr c10
              clear c10
              have H' := Aside0.mk H
              clear H
              have p5 : 0 ≤ (0 : Int) := (by omega)
              have q5 : 0 < a0.size := (by have : (0 : Int) < (a0.size : Int) := of_decide_eq_true (by first | (with_reducible assumption) | assumption); omega)
              have hx5 : ∀ h : 0 < a0.size, ((a0[0]'h).toNat : Int) = bt a0 0 := bt_at a0 0
              clear p5
              have qi5 : (0 < (a0.size : Int)) = True := eq_true (of_decide_eq_true (by first | (with_reducible assumption) | assumption))
              replace q5 := eq_true q5
              have p7 : 0 ≤ (0 : Int) := (by omega)
              have q7 : 0 < a0.size := (by have : (0 : Int) < (a0.size : Int) := of_decide_eq_true (by first | (with_reducible assumption) | assumption); omega)
              have hx7 : ∀ h : 0 < a0.size, ((a0[0]'h).toNat : Int) = bt a0 0 := bt_at a0 0
              clear p7
              have qi7 : (0 < (a0.size : Int)) = True := eq_true (of_decide_eq_true (by first | (with_reducible assumption) | assumption))
              replace q7 := eq_true q7
              have p9 : 0 ≤ (0 : Int) := (by omega)
              have q9 : 0 < a0.size := (by have : (0 : Int) < (a0.size : Int) := of_decide_eq_true (by first | (with_reducible assumption) | assumption); omega)
              have hx9 : ∀ h : 0 < a0.size, ((a0[0]'h).toNat : Int) = bt a0 0 := bt_at a0 0
              clear p9
              have qi9 : (0 < (a0.size : Int)) = True := eq_true (of_decide_eq_true (by first | (with_reducible assumption) | assumption))
              replace q9 := eq_true q9
              go_wp2
              repeat (go_quiet (fail); try go_wp2)
              go_meet
              case rel => exact ⟨_, (false), (by first | rfl | (simp; done) | (simp [*]; done)), H', ⟨by first | omega | exact Nat.le_refl _⟩, by repeat (first | exact Drawn0.refl _ | apply Drawn0.step)⟩
            · rw [if_neg c10] at H
              have c10b0 : ((bt a0 0) == 61) = false := beq_eq_false_iff_ne.mpr c10
              have c10b1 : ((bt a0 0) != 61) = true := bne_iff_ne.mpr c10
              have H' := Aside0.mk H
              clear H
              have p5 : 0 ≤ (0 : Int) := (by omega)
              have q5 : 0 < a0.size := (by have : (0 : Int) < (a0.size : Int) := of_decide_eq_true (by first | (with_reducible assumption) | assumption); omega)
              have hx5 : ∀ h : 0 < a0.size, ((a0[0]'h).toNat : Int) = bt a0 0 := bt_at a0 0
              clear p5
              have qi5 : (0 < (a0.size : Int)) = True := eq_true (of_decide_eq_true (by first | (with_reducible assumption) | assumption))
              replace q5 := eq_true q5
              have p7 : 0 ≤ (0 : Int) := (by omega)
              have q7 : 0 < a0.size := (by have : (0 : Int) < (a0.size : Int) := of_decide_eq_true (by first | (with_reducible assumption) | assumption); omega)
              have hx7 : ∀ h : 0 < a0.size, ((a0[0]'h).toNat : Int) = bt a0 0 := bt_at a0 0
              clear p7
              have qi7 : (0 < (a0.size : Int)) = True := eq_true (of_decide_eq_true (by first | (with_reducible assumption) | assumption))
              replace q7 := eq_true q7
              have p9 : 0 ≤ (0 : Int) := (by omega)
              have q9 : 0 < a0.size := (by have : (0 : Int) < (a0.size : Int) := of_decide_eq_true (by first | (with_reducible assumption) | assumption); omega)
              have hx9 : ∀ h : 0 < a0.size, ((a0[0]'h).toNat : Int) = bt a0 0 := bt_at a0 0
              clear p9
              have qi9 : (0 < (a0.size : Int)) = True := eq_true (of_decide_eq_true (by first | (with_reducible assumption) | assumption))
              replace q9 := eq_true q9
              have p11 : 0 ≤ (0 : Int) := (by omega)
              have q11 : 0 < a0.size := (by have : (0 : Int) < (a0.size : Int) := of_decide_eq_true (by first | (with_reducible assumption) | assumption); omega)
              have hx11 : ∀ h : 0 < a0.size, ((a0[0]'h).toNat : Int) = bt a0 0 := bt_at a0 0
              clear p11
              have qi11 : (0 < (a0.size : Int)) = True := eq_true (of_decide_eq_true (by first | (with_reducible assumption) | assumption))
              replace q11 := eq_true q11
              go_wp2
              repeat (go_quiet (fail); try go_wp2)
              go_meet
              case rel => exact ⟨_, (((bt a0 0) != 62)), (by first | rfl | (simp; done) | (simp [*]; done)), H', ⟨by first | omega | exact Nat.le_refl _⟩, by repeat (first | exact Drawn0.refl _ | apply Drawn0.step)⟩
      · rw [if_neg c4] at H
        exact absurd H (by simp)
  case rest =>
    clear HC2
    try clear c1
    try clear p1
    try clear q1
    try clear hx1
    try clear qi1
    try clear p2
    try clear c3
    try clear c3b0
    try clear c3b1
    try clear c4
    try clear c4b0
    try clear c4b1
    try clear p5
    try clear q5
    try clear hx5
    try clear qi5
    try clear c6
    try clear c6b0
    try clear c6b1
    try clear p7
    try clear q7
    try clear hx7
    try clear qi7
    try clear c8
    try clear c8b0
    try clear c8b1
    try clear p9
    try clear q9
    try clear hx9
    try clear qi9
    try clear c10
    try clear c10b0
    try clear c10b1
    try clear p11
    try clear q11
    try clear hx11
    try clear qi11
    try clear p11
    try clear p5
    try clear p7
    try clear p9
    try clear q11
    try clear q5
    try clear q7
    try clear q9
    obtain ⟨kq, x25_1, rfl, HA, HJ1, ⟨mc1, rfl⟩⟩ := hcut
    cases kq with
    | zero => exact absurd HA.out (by simp [tripartiteref01_Run.j0])
    | succ kj1 =>
      have H := HA.out
      clear HA
      simp only [tripartiteref01_Run.j0] at H
      by_cases c12 : x25_1 = true
      · subst c12
        have H1 : (some 0) = some r := by rw [if_pos rfl] at H; exact H
        clear H
        have H := H1
        clear H1
        obtain rfl := Option.some.inj H
        go_wp2
        repeat (go_quiet (fail); try go_wp2)
        go_ret
        exact ⟨by first | rfl | (simp; done) | (simp [*]; done), by repeat (first | exact Drawn0.refl _ | apply Drawn0.step)⟩
      · replace c12 := Bool.eq_false_iff.mpr c12
        subst c12
        have H1 : (tripartiteref01_Run.l0 kj1 a0 0) = some r := by rw [if_neg (show ¬ (false = true) by decide)] at H; exact H
        clear H
        have H := H1
        clear H1
        have H' := Aside0.mk H
        clear H
        go_wp2
        repeat (go_quiet (fail); try go_wp2)
        go_loopg [3] kj1 (fun kq v3 w' => ∃ (x3_2 : Int), v3 = .int .i64 x3_2 ∧ Aside0 (tripartiteref01_Run.l0 kq a0 x3_2 = some r) ∧ Aside0 (kq ≤ kj1) ∧ Drawn0 w w')
        case atStart => exact ⟨(0), (by first | rfl | (simp; done) | (simp [*]; done)), H', ⟨Nat.le_refl _⟩, by repeat (first | exact Drawn0.refl _ | apply Drawn0.step)⟩
        case round =>
          clear H'
          try clear c1
          try clear p1
          try clear q1
          try clear hx1
          try clear qi1
          try clear p2
          try clear c3
          try clear c3b0
          try clear c3b1
          try clear c4
          try clear c4b0
          try clear c4b1
          try clear p5
          try clear q5
          try clear hx5
          try clear qi5
          try clear c6
          try clear c6b0
          try clear c6b1
          try clear p7
          try clear q7
          try clear hx7
          try clear qi7
          try clear c8
          try clear c8b0
          try clear c8b1
          try clear p9
          try clear q9
          try clear hx9
          try clear qi9
          try clear c10
          try clear c10b0
          try clear c10b1
          try clear p11
          try clear q11
          try clear hx11
          try clear qi11
          try clear c12
          try clear p1
          try clear p11
          try clear p2
          try clear p5
          try clear p7
          try clear p9
          try clear q1
          try clear q11
          try clear q5
          try clear q7
          try clear q9
          obtain ⟨x3_2, rfl, HA, HK2, ⟨m2, rfl⟩⟩ := hrel
          cases gk with
          | zero => exact absurd HA.out (by simp [tripartiteref01_Run.l0])
          | succ k2 =>
            have H := HA.out
            clear HA
            simp only [tripartiteref01_Run.l0] at H
            by_cases c13 : x3_2 < (a0.size : Int)
            · rw [if_pos c13] at H
              have c13b0 : decide (x3_2 < (a0.size : Int)) = true := decide_eq_true c13
              clear c13
              by_cases c14 : 0 ≤ x3_2
              · rw [if_pos c14] at H
                have c14b0 : decide (0 ≤ x3_2) = true := decide_eq_true c14
                clear c14
                by_cases c16 : 0 < (a0.size : Int)
                · rw [if_pos c16] at H
                  have c16b0 : decide (0 < (a0.size : Int)) = true := decide_eq_true c16
                  have c16b1 : decide (0 < a0.size) = true := decide_eq_true (by omega)
                  clear c16
                  by_cases c18 : (bt a0 x3_2) = (bt a0 0)
                  · rw [if_pos c18] at H
                    have c18b0 : ((bt a0 x3_2) == (bt a0 0)) = true := beq_iff_eq.mpr c18
                    have c18b1 : ((bt a0 x3_2) != (bt a0 0)) = false := bne_eq_false_iff_eq.mpr c18
                    clear c18
                    have H' := Aside0.mk H
                    clear H
                    have p15 : 0 ≤ (x3_2 : Int) := of_decide_eq_true (by first | (with_reducible assumption) | assumption)
                    have q15 : x3_2 < (a0.size : Int) := of_decide_eq_true (by first | (with_reducible assumption) | assumption)
                    have hx15 := bt_at a0 x3_2
                    replace p15 := eq_true p15
                    replace q15 := eq_true q15
                    have p17 : 0 ≤ (0 : Int) := (by omega)
                    have q17 : 0 < a0.size := (by have : (0 : Int) < (a0.size : Int) := of_decide_eq_true (by first | (with_reducible assumption) | assumption); omega)
                    have hx17 : ∀ h : 0 < a0.size, ((a0[0]'h).toNat : Int) = bt a0 0 := bt_at a0 0
                    clear p17
                    have qi17 : (0 < (a0.size : Int)) = True := eq_true (of_decide_eq_true (by first | (with_reducible assumption) | assumption))
                    replace q17 := eq_true q17
                    go_wp2
                    repeat (go_quiet (fail); try go_wp2)
                    go_roundg k2
                    case measure => have := HJ1.out; have := HK2.out; omega
                    case rel => exact ⟨(wrap64 (x3_2 + 1)), (by first | rfl | (simp; done) | (simp [*]; done)), H', ⟨by have := HJ1.out; have := HK2.out; omega⟩, by repeat (first | exact Drawn0.refl _ | apply Drawn0.step)⟩
                  · rw [if_neg c18] at H
                    have c18b0 : ((bt a0 x3_2) == (bt a0 0)) = false := beq_eq_false_iff_ne.mpr c18
                    have c18b1 : ((bt a0 x3_2) != (bt a0 0)) = true := bne_iff_ne.mpr c18
                    obtain rfl := Option.some.inj H
                    have p15 : 0 ≤ (x3_2 : Int) := of_decide_eq_true (by first | (with_reducible assumption) | assumption)
                    have q15 : x3_2 < (a0.size : Int) := of_decide_eq_true (by first | (with_reducible assumption) | assumption)
                    have hx15 := bt_at a0 x3_2
                    replace p15 := eq_true p15
                    replace q15 := eq_true q15
                    have p17 : 0 ≤ (0 : Int) := (by omega)
                    have q17 : 0 < a0.size := (by have : (0 : Int) < (a0.size : Int) := of_decide_eq_true (by first | (with_reducible assumption) | assumption); omega)
                    have hx17 : ∀ h : 0 < a0.size, ((a0[0]'h).toNat : Int) = bt a0 0 := bt_at a0 0
                    clear p17
                    have qi17 : (0 < (a0.size : Int)) = True := eq_true (of_decide_eq_true (by first | (with_reducible assumption) | assumption))
                    replace q17 := eq_true q17
                    go_wp2
                    repeat (go_quiet (fail); try go_wp2)
                    go_ret
                    exact ⟨by first | rfl | (simp; done) | (simp [*]; done), by repeat (first | exact Drawn0.refl _ | apply Drawn0.step)⟩
                · rw [if_neg c16] at H
                  exact absurd H (by simp)
              · rw [if_neg c14] at H
                exact absurd H (by simp)
            · rw [if_neg c13] at H
              have c13b0 : decide (x3_2 < (a0.size : Int)) = false := decide_eq_false c13
              clear c13
              obtain rfl := Option.some.inj H
              go_wp2
              repeat (go_quiet (fail); try go_wp2)
              go_ret
              exact ⟨by first | rfl | (simp; done) | (simp [*]; done), by repeat (first | exact Drawn0.refl _ | apply Drawn0.step)⟩
end Go.Proofs.Ytfiamddinkokbaa.F
end

section
set_option linter.unusedVariables false
set_option linter.unusedSimpArgs false
namespace Go.Proofs.Ytfiamddinkokbaa.F
open Go.RowKit Go.Proofs.YtfiamddinkokbaaW.PrintWords Go.Proofs.YtfiamddinkokbaaW.PrintLast Go.Proofs.YtfiamddinkokbaaW.PrintMore
attribute [local go_sem] max2_int min2_int max_two min_two max_three min_three max_four min_four
set_option linter.unusedVariables false
set_option linter.unusedSimpArgs false
def tripartiteref01_Longest.l0 : Nat → List ByteArray → Int → Int → Option (Int)
  | 0, _, _, _ => none
  | k + 1, x0, x3, x4 => if x4 < (x0.length : Int) then (if 0 ≤ x4 then ((tripartiteref01_Run.f k (rdOf ByteArray.empty x0 x4)).bind fun t175 => (tripartiteref01_Longest.l0 k x0 (mx x3 t175) (wrap64 (x4 + 1)))) else (none)) else (some x3)
def tripartiteref01_Longest.f (k : Nat) (l0 : List ByteArray) : Option (Int) := tripartiteref01_Longest.l0 k l0 0 0
theorem tripartiteref01_Longest.mono_l : ∀ k, (∀ y0 y1 y2, LeO (tripartiteref01_Longest.l0 k y0 y1 y2) (tripartiteref01_Longest.l0 (k + 1) y0 y1 y2))
  | 0 => fun _ _ _ r h => by simp [tripartiteref01_Longest.l0] at h
  | k + 1 => by
    have ih0 := tripartiteref01_Longest.mono_l k
    · intro y0 y1 y2
      unfold tripartiteref01_Longest.l0
      repeat' first
      | (with_reducible exact ih0 _ _ _)
      | (with_reducible exact tripartiteref01_Run.mono _ _)
      | (with_reducible exact LeO.refl _)
      | (with_reducible exact LeO.none _)
      | (with_reducible refine LeO.ite ?_ ?_)
      | (with_reducible refine LeO.bind ?_ (fun _ => ?_))
      | exact ih0 _ _ _
      | exact tripartiteref01_Run.mono _ _
      | exact LeO.none _
      | refine LeO.ite ?_ ?_
      | refine LeO.bind ?_ (fun _ => ?_)
theorem tripartiteref01_Longest.mono : ∀ a0 k, LeO (tripartiteref01_Longest.f k a0) (tripartiteref01_Longest.f (k + 1) a0) := by
  intro a0 k
  have ih0 := tripartiteref01_Longest.mono_l k
  unfold tripartiteref01_Longest.f
  repeat' first
      | (with_reducible exact ih0 _ _ _)
      | (with_reducible exact tripartiteref01_Run.mono _ _)
      | (with_reducible exact LeO.refl _)
      | (with_reducible exact LeO.none _)
      | (with_reducible refine LeO.ite ?_ ?_)
      | (with_reducible refine LeO.bind ?_ (fun _ => ?_))
      | exact ih0 _ _ _
      | exact tripartiteref01_Run.mono _ _
      | exact LeO.none _
      | refine LeO.ite ?_ ?_
      | refine LeO.bind ?_ (fun _ => ?_)
set_option maxHeartbeats 8000000 in
set_option maxRecDepth 100000 in
theorem tripartiteref01_Longest.calls (k : Nat) (A0 : Option Addr) (c0 : Nat) (l0 : List ByteArray) (r : Int) (w : World) (hr0 : Kd.C Kd.string w A0 l0.length l0) (hc0 : l0.length ≤ c0) (h : tripartiteref01_Longest.f k l0 = some r) :
    Calls Try.prog 41 #[.slice A0 l0.length c0] w fun e w' => e = .returned (.int .i64 r) ∧ Below w.heap.size w w' := by
  have HR0 := Aside0.mk hr0
  have HC0 := Aside0.mk hc0
  clear hr0 hc0
  have HB := Aside0.mk (Below.refl w.heap.size w)
  have H : (tripartiteref01_Longest.l0 k l0 0 0) = some r := h
  clear h
  have H' := Aside0.mk H
  clear H
  go_enter Try.func41, Try.ntmps41
  go_wp2
  go_loopg [3, 4] k (fun kq v3 v4 w' => ∃ (x3_1 : Int) (x4_1 : Int), v3 = .int .i64 x3_1 ∧ v4 = .int .i64 x4_1 ∧ Aside0 (tripartiteref01_Longest.l0 kq l0 x3_1 x4_1 = some r) ∧ Aside0 (kq ≤ k) ∧ Aside0 (Below w.heap.size w w'))
  case atStart => exact ⟨(0), (0), (by first | rfl | (simp; done) | (simp [*]; done)), (by first | rfl | (simp; done) | (simp [*]; done)), H', ⟨Nat.le_refl _⟩, ⟨by repeat (first | (with_reducible first | exact HB.out | apply below_alloc | apply pw_below_drewN | apply below_drew1) | exact HB.out)⟩⟩
  case round =>
    clear H'
    obtain ⟨x3_1, x4_1, rfl, rfl, HA, HK1, HB⟩ := hrel
    cases gk with
    | zero => exact absurd HA.out (by simp [tripartiteref01_Longest.l0])
    | succ k1 =>
      have H := HA.out
      clear HA
      simp only [tripartiteref01_Longest.l0] at H
      by_cases c2 : x4_1 < (l0.length : Int)
      · rw [if_pos c2] at H
        have c2b0 : decide (x4_1 < (l0.length : Int)) = true := decide_eq_true c2
        clear c2
        by_cases c3 : 0 ≤ x4_1
        · rw [if_pos c3] at H
          have c3b0 : decide (0 ≤ x4_1) = true := decide_eq_true c3
          clear c3
          replace H := Option.bind_eq_some_iff.mp H
          obtain ⟨t175, A40, H⟩ := H
          replace H : (tripartiteref01_Longest.l0 k1 l0 (mx x3_1 t175) (wrap64 (x4_1 + 1))) = some r := H
          have A4 := Aside0.mk A40
          clear A40
          obtain ⟨ji5, hji5⟩ : ∃ j_ : Int, (mx x3_1 t175) = j_ := ⟨_, rfl⟩
          replace H : (tripartiteref01_Longest.l0 k1 l0 ji5 (wrap64 (x4_1 + 1))) = some r := by first | (rw [hji5] at H; exact H) | (simp only [hji5] at H ⊢; exact H)
          (try rw [hji5] at A4)
          have hji5_ : (if x3_1 < t175 then t175 else x3_1) = ji5 := hji5
          have H' := Aside0.mk H
          clear H
          have p174 : 0 ≤ (x4_1 : Int) := of_decide_eq_true (by first | (with_reducible assumption) | assumption)
          have q174 : x4_1 < (l0.length : Int) := of_decide_eq_true (by first | (with_reducible assumption) | assumption)
          obtain ⟨ad174, e174, hx174_0⟩ := Kd.at_string HR0.out x4_1 p174 q174
          cases e174
          replace hx174_0 := (HB.out.cell (World.block_lt_of_cell? w _ hx174_0)).trans hx174_0
          replace p174 := eq_true p174
          replace q174 := eq_true q174
          go_wp2_with (first | ((with_reducible refine gate_callee (f := 44) rfl ?_); refine goesL_ (some 16) rfl rfl Try.func44 (by kernel_rfl) rfl #[.string (rdOf ByteArray.empty l0 x4_1)] rfl (by (try simp only [List.map_toArray, List.map_cons, List.map_nil]); first | done | rfl | (simp only [List.length_drop, List.length_take]; rfl)) ?_; (with_reducible refine (tripartiteref01_Run.calls k1 (rdOf ByteArray.empty l0 x4_1) t175 _ A4.out).mono ?_); rintro e w' ⟨rfl, ⟨nd, rfl⟩⟩; refine ⟨_, rfl, ?_⟩))
          go_roundg k1
          case measure => have := HK1.out; omega
          case rel => exact ⟨(ji5), (wrap64 (x4_1 + 1)), (by first | rfl | (simp; done) | (simp only [← hji5] <;> (first | rfl | simp)) | (simp [*]; done)), (by first | rfl | (simp; done) | (simp [*]; done)), H', ⟨by have := HK1.out; omega⟩, ⟨by repeat (first | (with_reducible first | exact HB.out | apply below_alloc | apply pw_below_drewN | apply below_drew1) | exact HB.out)⟩⟩
        · rw [if_neg c3] at H
          exact absurd H (by simp)
      · rw [if_neg c2] at H
        have c2b0 : decide (x4_1 < (l0.length : Int)) = false := decide_eq_false c2
        clear c2
        obtain rfl := Option.some.inj H
        go_wp2
        go_ret
        exact ⟨by first | rfl | (simp [errW_none, errW_some] <;> rfl) | (simp [*, errW_none, errW_some] <;> rfl), by repeat (first | (with_reducible first | exact HB.out | apply below_alloc | apply pw_below_drewN | apply below_drew1) | exact HB.out)⟩
end Go.Proofs.Ytfiamddinkokbaa.F
end

section
set_option linter.unusedVariables false
set_option linter.unusedSimpArgs false
namespace Go.Proofs.Ytfiamddinkokbaa.F
open Go.RowKit Go.Proofs.YtfiamddinkokbaaW.PrintWords Go.Proofs.YtfiamddinkokbaaW.PrintLast Go.Proofs.YtfiamddinkokbaaW.PrintMore
set_option linter.unusedVariables false
set_option linter.unusedSimpArgs false
end Go.Proofs.Ytfiamddinkokbaa.F
end

section
set_option linter.unusedVariables false
set_option linter.unusedSimpArgs false
namespace Go.Proofs.Ytfiamddinkokbaa.F
open Go.RowKit Go.Proofs.YtfiamddinkokbaaW.PrintWords Go.Proofs.YtfiamddinkokbaaW.PrintLast Go.Proofs.YtfiamddinkokbaaW.PrintMore
attribute [local go_sem] max2_int min2_int max_two min_two max_three min_three max_four min_four
set_option linter.unusedVariables false
set_option linter.unusedSimpArgs false
def tripartiteref07_Run.f (k : Nat) (a0 : ByteArray) : Option (Int) := (tripartiteref01_Split.f k a0).bind fun t176 => ((tripartiteref01_Longest.f k t176).bind fun t179 => (some t179))
theorem tripartiteref07_Run.mono : ∀ a0 k, LeO (tripartiteref07_Run.f k a0) (tripartiteref07_Run.f (k + 1) a0) := by
  intro a0 k
  unfold tripartiteref07_Run.f
  repeat' first
      | (with_reducible exact tripartiteref01_Longest.mono _ _)
      | (with_reducible exact tripartiteref01_Split.mono _ _)
      | (with_reducible exact LeO.refl _)
      | (with_reducible exact LeO.none _)
      | (with_reducible refine LeO.ite ?_ ?_)
      | (with_reducible refine LeO.bind ?_ (fun _ => ?_))
      | exact tripartiteref01_Longest.mono _ _
      | exact tripartiteref01_Split.mono _ _
      | exact LeO.none _
      | refine LeO.ite ?_ ?_
      | refine LeO.bind ?_ (fun _ => ?_)
set_option maxHeartbeats 8000000 in
set_option maxRecDepth 100000 in
theorem tripartiteref07_Run.calls (k : Nat) (a0 : ByteArray) (r : Int) (w : World) (h : tripartiteref07_Run.f k a0 = some r) :
    Calls Try.prog 21 #[.string a0] w fun e w' => e = .returned (.int .i64 r) ∧ Below w.heap.size w w' := by
  have HB := Aside0.mk (Below.refl w.heap.size w)
  have H : ((tripartiteref01_Split.f k a0).bind fun t176 => ((tripartiteref01_Longest.f k t176).bind fun t179 => (some t179))) = some r := h
  clear h
  replace H := Option.bind_eq_some_iff.mp H
  obtain ⟨t176, A20, H⟩ := H
  replace H : ((tripartiteref01_Longest.f k t176).bind fun t179 => (some t179)) = some r := H
  have A2 := Aside0.mk A20
  clear A20
  replace H := Option.bind_eq_some_iff.mp H
  obtain ⟨t179, A30, H⟩ := H
  replace H : (some t179) = some r := H
  have A3 := Aside0.mk A30
  clear A30
  obtain rfl := Option.some.inj H
  go_enter Try.func21, Try.ntmps21
  go_wp2_with (first | ((with_reducible refine gate_callee (f := 32) rfl ?_); refine goesL_ (some 4) rfl rfl Try.func32 (by kernel_rfl) rfl #[.string a0] rfl (by (try simp only [List.map_toArray, List.map_cons, List.map_nil]); first | done | rfl | (simp only [List.length_drop, List.length_take]; rfl)) ?_; (with_reducible refine (tripartiteref01_Split.calls k a0 t176 _ A2.out).mono ?_); rintro e w4 ⟨v177, rfl, ho0, hb⟩; refine ⟨_, rfl, ?_⟩; have n0_ := Aside0.mk (Kd.R_lower ho0 (below_size (by repeat (first | (with_reducible first | exact HB.out | apply below_alloc | apply pw_below_drewN | apply below_drew1) | exact HB.out)))); have n1_ := Aside0.mk (below_step (by repeat (first | (with_reducible first | exact HB.out | apply below_alloc | apply pw_below_drewN | apply below_drew1) | exact HB.out)) hb); clear HB; have HO178 := n0_; have HB := n1_; clear n0_ n1_; (try clear hb); (try clear hb2); (try clear hk); (try clear hi); (try clear ho0); obtain ⟨Ao5, co5, eo5⟩ := Kd.R_slice HO178.out; subst eo5) | ((with_reducible refine gate_callee (f := 41) rfl ?_); refine goesL_ (some 5) rfl rfl Try.func41 (by kernel_rfl) rfl #[.slice Ao5 t176.length co5] rfl (by (try simp only [List.map_toArray, List.map_cons, List.map_nil]); first | done | rfl | (simp only [List.length_drop, List.length_take]; rfl)) ?_; (with_reducible refine (tripartiteref01_Longest.calls k _ _ t176 t179 _ ?side1 ?side2 A3.out).mono ?_); (case side1 => repeat (first | exact (Kd.R_reads' HO178.out).2.2 | (with_reducible refine Kd.C_alloc ?_ _) | (with_reducible refine Kd.C_drewN ?_ _) | (with_reducible refine Kd.C_drew ?_))); (case side2 => exact (Kd.R_reads' HO178.out).2.1); rintro e w6 ⟨rfl, hb⟩; refine ⟨_, rfl, ?_⟩; have n0_ := Aside0.mk (Kd.R_below (by (with_reducible repeat (first | apply Kd.R_alloc | apply Kd.R_drewN | apply Kd.R_drew)); exact HO178.out) hb); have n1_ := Aside0.mk (below_step (by repeat (first | (with_reducible first | exact HB.out | apply below_alloc | apply pw_below_drewN | apply below_drew1) | exact HB.out)) hb); clear HO178; clear HB; have HO178 := n0_; have HB := n1_; clear n0_ n1_; (try clear hb); (try clear hb2); (try clear hk); (try clear hi)))
  go_ret
  exact ⟨by first | rfl | (simp [errW_none, errW_some] <;> rfl) | (simp [*, errW_none, errW_some] <;> rfl), by repeat (first | (with_reducible first | exact HB.out | apply below_alloc | apply pw_below_drewN | apply below_drew1) | exact HB.out)⟩
end Go.Proofs.Ytfiamddinkokbaa.F
end

section
set_option linter.unusedVariables false
set_option linter.unusedSimpArgs false
namespace Go.Proofs.Ytfiamddinkokbaa.F
open Go.RowKit Go.Proofs.YtfiamddinkokbaaW.PrintWords Go.Proofs.YtfiamddinkokbaaW.PrintLast Go.Proofs.YtfiamddinkokbaaW.PrintMore
set_option linter.unusedVariables false
set_option linter.unusedSimpArgs false
theorem ev_told07 : Ev (fun k => tripartitelaw07_told.f k) true := Ev.of_mono (fun k => tripartitelaw07_told.mono k) (k := 40) (by decide +kernel)
end Go.Proofs.Ytfiamddinkokbaa.F
end

section
set_option linter.unusedVariables false
set_option linter.unusedSimpArgs false
namespace Go.Proofs.Ytfiamddinkokbaa.F
open Go.RowKit Go.Proofs.YtfiamddinkokbaaW.PrintWords Go.Proofs.YtfiamddinkokbaaW.PrintLast Go.Proofs.YtfiamddinkokbaaW.PrintMore
set_option linter.unusedVariables false
set_option linter.unusedSimpArgs false
def to106 (x : S109) : S106 := ⟨⟨x.f0, x.f1, x.f2⟩, x.f3, x.f4, x.f5, x.f6, x.f7, x.f8⟩
def to109 (x : S106) : S109 := ⟨x.f0.f0, x.f0.f1, x.f0.f2, x.f1, x.f2, x.f3, x.f4, x.f5, x.f6⟩
theorem map_to109 (l : List S109) : (l.map to106).map to109 = l := by
  rw [List.map_map]; exact List.map_id l
def isTextP (x : S109) : Bool := x.f0.toList.isEmpty && (x.f1.toList.isEmpty && (x.f2.toList.isEmpty && (!x.f3 && (x.f5.toList.isEmpty && (x.f6.toList.isEmpty && (x.f7.toList.isEmpty && (!x.f8)))))))
def isNoneP (x : S109) : Bool := isTextP x && x.f4.toList.isEmpty
def joinP (z p : S109) : S109 := ⟨z.f0, z.f1, z.f2, z.f3, z.f4 ++ p.f4, z.f5, z.f6, z.f7, z.f8⟩
def ofStep (out : List S109) (p : S109) : List S109 :=
  if isNoneP p = true then out
  else match out.getLast? with
    | none => out ++ [p]
    | some z => if isTextP p = true ∧ isTextP z = true then out.dropLast ++ [joinP z p] else out ++ [p]
def ofP (l : List S109) : List S109 := l.foldl ofStep []
theorem ofStep_none (out : List S109) (p : S109) (h : isNoneP p = true) : ofStep out p = out := by unfold ofStep; rw [if_pos h]
theorem ofStep_nil (p : S109) (h : ¬ isNoneP p = true) : ofStep [] p = [p] := by unfold ofStep; rw [if_neg h]; rfl
theorem ofStep_join (u : List S109) (z p : S109) (h : ¬ isNoneP p = true) (hp : isTextP p = true) (hz : isTextP z = true) : ofStep (u ++ [z]) p = u ++ [joinP z p] := by
  unfold ofStep; rw [if_neg h, List.getLast?_concat]; simp [hp, hz]
theorem ofStep_put (u : List S109) (z p : S109) (h : ¬ isNoneP p = true) (hn : ¬ (isTextP p = true ∧ isTextP z = true)) : ofStep (u ++ [z]) p = u ++ [z] ++ [p] := by
  unfold ofStep; rw [if_neg h, List.getLast?_concat]; simp only [if_neg hn]
def textSum (l : List S109) : Nat := (l.map fun x => x.f4.size).sum
theorem joinP_text (z p : S109) : isTextP (joinP z p) = isTextP z := rfl
theorem empty_toList (s : ByteArray) : s.toList.isEmpty = true ↔ s.size = 0 := by
  rw [bytes_toList, List.isEmpty_iff, ← size_data]; exact ⟨fun h => by rw [h]; rfl, fun h => List.length_eq_zero_iff.1 h⟩
def Joined (l : List S109) : Prop := (∀ x ∈ l, ¬ isNoneP x = true) ∧ ∀ u a b v, l = u ++ a :: b :: v → ¬ (isTextP a = true ∧ isTextP b = true)
theorem snoc_two {α : Type} {l u v : List α} {z a b : α} (h : l ++ [z] = u ++ a :: b :: v) : (v = [] ∧ b = z ∧ l = u ++ [a]) ∨ ∃ v', v = v' ++ [z] ∧ l = u ++ a :: b :: v' := by
  rcases List.eq_nil_or_concat v with rfl | ⟨v', y, rfl⟩
  · left
    have h2 : l ++ [z] = (u ++ [a]) ++ [b] := by rw [h]; simp
    obtain ⟨h3, h4⟩ := List.append_inj' h2 rfl
    exact ⟨rfl, (List.cons.inj h4).1.symm, h3⟩
  · right
    have h2 : l ++ [z] = (u ++ a :: b :: v') ++ [y] := by rw [h]; simp
    obtain ⟨h3, h4⟩ := List.append_inj' h2 rfl
    exact ⟨v', by rw [(List.cons.inj h4).1]; simp, h3⟩
theorem joined_nil : Joined [] := ⟨fun x hx => (by cases hx), fun u a b v h => (by simp at h)⟩
theorem joined_step (out : List S109) (p : S109) (h : Joined out) : Joined (ofStep out p) := by
  obtain ⟨h1, h2⟩ := h
  by_cases hn : isNoneP p = true
  · rw [ofStep_none out p hn]; exact ⟨h1, h2⟩
  · rcases List.eq_nil_or_concat out with rfl | ⟨u0, z, rfl⟩
    · rw [ofStep_nil p hn]
      refine ⟨fun x hx => by rw [List.mem_singleton.1 hx]; exact hn, fun u a b v e => ?_⟩
      have := congrArg List.length e
      simp at this; omega
    · rw [List.concat_eq_append] at h1 h2 ⊢
      by_cases hb : isTextP p = true ∧ isTextP z = true
      · rw [ofStep_join u0 z p hn hb.1 hb.2]
        refine ⟨fun x hx => ?_, fun u a b v e => ?_⟩
        · rcases List.mem_append.1 hx with hx | hx
          · exact h1 x (List.mem_append_left _ hx)
          · rw [List.mem_singleton.1 hx]
            intro hj
            apply hn
            unfold isNoneP at hj ⊢
            rw [joinP_text, hb.2, Bool.true_and] at hj
            rw [hb.1, Bool.true_and]
            rw [empty_toList] at hj ⊢
            unfold joinP at hj
            simp only [ByteArray.size_append] at hj
            omega
        · rcases snoc_two e with ⟨rfl, rfl, rfl⟩ | ⟨v', rfl, rfl⟩
          · rw [joinP_text]; exact h2 u a z [] (by simp)
          · exact h2 u a b (v' ++ [z]) (by simp)
      · rw [ofStep_put u0 z p hn hb]
        refine ⟨fun x hx => ?_, fun u a b v e => ?_⟩
        · rcases List.mem_append.1 hx with hx | hx
          · exact h1 x hx
          · rw [List.mem_singleton.1 hx]; exact hn
        · rcases snoc_two e with ⟨rfl, rfl, e2⟩ | ⟨v', rfl, e2⟩
          · obtain ⟨_, e3⟩ := List.append_inj' e2 rfl
            rw [← (List.cons.inj e3).1]
            exact fun hc => hb ⟨hc.2, hc.1⟩
          · exact h2 u a b v' e2
theorem joined_fold (l out : List S109) (h : Joined out) : Joined (l.foldl ofStep out) := by
  induction l generalizing out with
  | nil => exact h
  | cons p l ih => exact ih _ (joined_step out p h)
theorem joined_of (l : List S109) : Joined (ofP l) := joined_fold l [] joined_nil
theorem fold_joined (l acc : List S109) (h : Joined (acc ++ l)) : l.foldl ofStep acc = acc ++ l := by
  induction l generalizing acc with
  | nil => simp
  | cons p l ih =>
    have hn : ¬ isNoneP p = true := h.1 p (by simp)
    have hs : ofStep acc p = acc ++ [p] := by
      rcases List.eq_nil_or_concat acc with rfl | ⟨u, z, rfl⟩
      · exact ofStep_nil p hn
      · rw [List.concat_eq_append] at h ⊢
        exact ofStep_put u z p hn (fun hc => h.2 u z p l (by simp) ⟨hc.2, hc.1⟩)
    show l.foldl ofStep (ofStep acc p) = acc ++ p :: l
    rw [hs, ih (acc ++ [p]) (by simpa using h)]; simp
theorem of_of (l : List S109) : ofP (ofP l) = ofP l := by
  have := fold_joined (ofP l) [] (by simpa using joined_of l)
  simpa [ofP] using this
theorem step_bound (M : Nat) (out : List S109) (p : S109) (h : ∀ x ∈ out, x.f4.size ≤ M) : (ofStep out p).length ≤ out.length + 1 ∧ ∀ x ∈ ofStep out p, x.f4.size ≤ M + p.f4.size := by
  by_cases hn : isNoneP p = true
  · rw [ofStep_none out p hn]; exact ⟨by omega, fun x hx => by have := h x hx; omega⟩
  · rcases List.eq_nil_or_concat out with rfl | ⟨u0, z, rfl⟩
    · rw [ofStep_nil p hn]; exact ⟨by simp, fun x hx => by rw [List.mem_singleton.1 hx]; omega⟩
    · rw [List.concat_eq_append] at h ⊢
      by_cases hb : isTextP p = true ∧ isTextP z = true
      · rw [ofStep_join u0 z p hn hb.1 hb.2]
        refine ⟨by simp, fun x hx => ?_⟩
        rcases List.mem_append.1 hx with hx | hx
        · have := h x (List.mem_append_left _ hx); omega
        · rw [List.mem_singleton.1 hx]
          have := h z (by simp)
          simp only [joinP, ByteArray.size_append]; omega
      · rw [ofStep_put u0 z p hn hb]
        refine ⟨by simp, fun x hx => ?_⟩
        rcases List.mem_append.1 hx with hx | hx
        · have := h x hx; omega
        · rw [List.mem_singleton.1 hx]; omega
theorem fold_bound : ∀ (l : List S109) (M : Nat) (out : List S109), (∀ x ∈ out, x.f4.size ≤ M) → (l.foldl ofStep out).length ≤ out.length + l.length ∧ ∀ x ∈ l.foldl ofStep out, x.f4.size ≤ M + textSum l
  | [], M, out, h => ⟨by simp, fun x hx => by have := h x hx; simp [textSum]; omega⟩
  | p :: l, M, out, h => by
    obtain ⟨h1, h2⟩ := step_bound M out p h
    obtain ⟨h3, h4⟩ := fold_bound l (M + p.f4.size) (ofStep out p) h2
    refine ⟨by simp only [List.foldl_cons, List.length_cons]; omega, fun x hx => ?_⟩
    have := h4 x hx
    simp only [textSum, List.map_cons, List.sum_cons] at this ⊢
    omega
theorem of_bound (l : List S109) : (ofP l).length ≤ l.length ∧ ∀ x ∈ ofP l, x.f4.size ≤ textSum l := by
  have := fold_bound l 0 [] (fun x hx => by cases hx)
  exact ⟨by simpa [ofP] using this.1, fun x hx => by have := this.2 x hx; omega⟩
theorem rd106_at (l : List S106) (i : Int) (xs ys : List S106) (c : S106) (h : l = xs ++ c :: ys) (hi : i = xs.length) : rd_T106 l i = c := by
  subst h hi; unfold rd_T106; simp [List.getD_eq_getElem?_getD]
theorem rd109_at (l : List S109) (i : Int) (xs ys : List S109) (c : S109) (h : l = xs ++ c :: ys) (hi : i = xs.length) : rd_T109 l i = c := by
  subst h hi; unfold rd_T109; simp [List.getD_eq_getElem?_getD]
theorem rd106_map (l : List S109) (i : Int) (xs ys : List S109) (c : S109) (h : l = xs ++ c :: ys) (hi : i = xs.length) : rd_T106 (l.map to106) i = to106 c :=
  rd106_at _ i (xs.map to106) (ys.map to106) (to106 c) (by rw [h]; simp) (by simpa using hi)
theorem to_in (l : List S109) (hn : l.length ≤ 4000000000) : ∀ (rest done : List S109) (i : Int), l = done ++ rest → i = done.length → Ev (fun k => tripartitelaw07_To.l0 k l (done.map to106) i) (l.map to106)
  | [], done, i, hl, ei => by
    refine Ev.succ ?_
    simp only [tripartitelaw07_To.l0]
    refine Ev.neg (by rw [hl]; simp; omega) (Ev.val (by rw [hl]; simp))
  | x :: rest, done, i, hl, ei => by
    have hsz : l.length = done.length + (rest.length + 1) := by rw [hl]; simp
    have hw : wrap64 (i + 1) = i + 1 := wrap_in (by omega) (by omega)
    refine Ev.succ ?_
    simp only [tripartitelaw07_To.l0, hw, rd109_at l i done rest x hl ei]
    refine Ev.pos (by omega) (Ev.pos (by omega) (Ev.bind (Ev.const rfl) (Ev.pos (by simp; omega) ?_)))
    have := to_in l hn rest (done ++ [x]) (i + 1) (by rw [hl]; simp) (by simp; omega)
    rw [List.map_append] at this
    exact this
theorem ev_to (l : List S109) (hn : l.length ≤ 4000000000) : Ev (fun k => tripartitelaw07_To.f k l) (l.map to106) := to_in l hn l [] 0 rfl rfl
theorem from_in (l : List S106) (hn : l.length ≤ 4000000000) : ∀ (rest done : List S106) (i : Int), l = done ++ rest → i = done.length → Ev (fun k => tripartitelaw07_From.l0 k l (done.map to109) i) (l.map to109)
  | [], done, i, hl, ei => by
    refine Ev.succ ?_
    simp only [tripartitelaw07_From.l0]
    refine Ev.neg (by rw [hl]; simp; omega) (Ev.val (by rw [hl]; simp))
  | x :: rest, done, i, hl, ei => by
    have hsz : l.length = done.length + (rest.length + 1) := by rw [hl]; simp
    have hw : wrap64 (i + 1) = i + 1 := wrap_in (by omega) (by omega)
    refine Ev.succ ?_
    simp only [tripartitelaw07_From.l0, hw, rd106_at l i done rest x hl ei]
    refine Ev.pos (by omega) (Ev.pos (by omega) (Ev.bind (Ev.const rfl) (Ev.pos (by simp; omega) ?_)))
    have := from_in l hn rest (done ++ [x]) (i + 1) (by rw [hl]; simp) (by simp; omega)
    rw [List.map_append] at this
    exact this
theorem ev_from (l : List S106) (hn : l.length ≤ 4000000000) : Ev (fun k => tripartitelaw07_From.f k l) (l.map to109) := from_in l hn l [] 0 rfl rfl
theorem set_last {α : Type} (u : List α) (z z' : α) (i : Int) (hi : i = u.length) : (u ++ [z]).set i.toNat z' = u ++ [z'] := by
  subst hi; rw [Int.toNat_natCast, List.set_append_right _ _ (Nat.le_refl _)]; simp
theorem doc_of_in (l : List S109) (hn : l.length ≤ 4000000000) (ht : textSum l ≤ 4000000000) :
    ∀ (rest done out : List S109) (i : Int) (M : Nat), l = done ++ rest → i = done.length → out.length ≤ done.length → (∀ x ∈ out, x.f4.size ≤ M) → M + textSum rest ≤ 4000000000 →
    Ev (fun k => doc_Of.l0 k (out.map to106) (l.map to106) ((l.map to106).length : Int) i) ((rest.foldl ofStep out).map to106)
  | [], done, out, i, M, hl, ei, ho, hm, hM => by
    refine Ev.succ ?_
    simp only [doc_Of.l0]
    refine Ev.neg (by rw [hl]; simp; omega) (Ev.val rfl)
  | p :: rest, done, out, i, M, hl, ei, ho, hm, hM => by
    have hsz : l.length = done.length + (rest.length + 1) := by rw [hl]; simp
    have hw : wrap64 (i + 1) = i + 1 := wrap_in (by omega) (by omega)
    obtain ⟨hb1, hb2⟩ := step_bound M out p hm
    have hts : textSum (p :: rest) = p.f4.size + textSum rest := by simp [textSum]
    have again := doc_of_in l hn ht rest (done ++ [p]) (ofStep out p) (i + 1) (M + p.f4.size) (by rw [hl]; simp) (by simp; omega) (by simp; omega) hb2 (by omega)
    have hlm : ((l.map to106).length : Int) = l.length := by simp
    refine Ev.succ ?_
    simp only [doc_Of.l0, hw, rd106_map l i done rest p hl ei]
    refine Ev.pos (by rw [hlm]; omega) (Ev.pos (by omega) (Ev.pos (by rw [hlm]; omega) ?_))
    have hcond : (((to106 p).f0.f0.toList.isEmpty && ((to106 p).f0.f1.toList.isEmpty && (to106 p).f0.f2.toList.isEmpty)) && (!(to106 p).f1 && ((to106 p).f2.toList.isEmpty && ((to106 p).f3.toList.isEmpty && ((to106 p).f4.toList.isEmpty && ((to106 p).f5.toList.isEmpty && (!(to106 p).f6))))))) = isNoneP p := by
      unfold isNoneP isTextP to106
      cases p.f0.toList.isEmpty <;> cases p.f1.toList.isEmpty <;> cases p.f2.toList.isEmpty <;> cases p.f3 <;> cases p.f4.toList.isEmpty <;> cases p.f5.toList.isEmpty <;> cases p.f6.toList.isEmpty <;> cases p.f7.toList.isEmpty <;> cases p.f8 <;> rfl
    have htext : ∀ q : S109, doc_Part_isText.f (to106 q).f0.f0 (to106 q).f0.f1 (to106 q).f0.f2 (to106 q).f1 (to106 q).f2 (to106 q).f3 (to106 q).f4 (to106 q).f5 (to106 q).f6 = some (isTextP q) := by
      intro q
      unfold doc_Part_isText.f isTextP to106
      congr 1
      cases q.f0.toList.isEmpty <;> cases q.f1.toList.isEmpty <;> cases q.f2.toList.isEmpty <;> cases q.f3 <;> cases q.f5.toList.isEmpty <;> cases q.f6.toList.isEmpty <;> cases q.f7.toList.isEmpty <;> cases q.f8 <;> rfl
    simp only [hcond]
    by_cases hnone : isNoneP p = true
    · refine Ev.pos hnone ?_
      rw [List.foldl_cons, ofStep_none out p hnone]
      rw [ofStep_none out p hnone] at again
      exact again
    · refine Ev.neg hnone (Ev.bind (Ev.const (htext p)) ?_)
      have put : ofStep out p = out ++ [p] → Ev (fun k => if (out.map to106).length < 1099511627776 then doc_Of.l0 k (out.map to106 ++ [(⟨(⟨(to106 p).f0.f0, (to106 p).f0.f1, (to106 p).f0.f2⟩ : S84), (to106 p).f1, (to106 p).f2, (to106 p).f3, (to106 p).f4, (to106 p).f5, (to106 p).f6⟩ : S106)]) (l.map to106) ((l.map to106).length : Int) (i + 1) else none) (((p :: rest).foldl ofStep out).map to106) := by
        intro e
        refine Ev.pos (by simp; omega) ?_
        rw [List.foldl_cons, e]
        rw [e, List.map_append] at again
        exact again
      by_cases hp : isTextP p = true
      · refine Ev.pos hp ?_
        rcases List.eq_nil_or_concat out with rfl | ⟨u, z, rfl⟩
        · refine Ev.neg (by simp) (put (ofStep_nil p hnone))
        · rw [List.concat_eq_append] at *
          have hul : (((u ++ [z]).map to106).length : Int) = u.length + 1 := by simp
          have hwl : wrap64 ((((u ++ [z]).map to106).length : Int) - 1) = u.length := by rw [hul, wrap_in (by simp at ho; omega) (by simp at ho; omega)]; omega
          have hrd : rd_T106 ((u ++ [z]).map to106) (u.length : Int) = to106 z := rd106_map (u ++ [z]) _ u [] z rfl rfl
          simp only [hwl, hrd]
          refine Ev.pos (by rw [hul]; omega) (Ev.pos (by omega) (Ev.pos (by rw [hul]; omega) (Ev.bind (Ev.const (htext z)) ?_)))
          by_cases hz : isTextP z = true
          · refine Ev.pos hz (Ev.pos ?_ ?_)
            · have := hm z (by simp)
              show z.f4.size + p.f4.size ≤ 9223372036854775807
              omega
            · rw [List.foldl_cons]
              rw [ofStep_join u z p hnone hp hz] at again ⊢
              have e : ((u ++ [z]).map to106).set (u.length : Int).toNat (to106 (joinP z p)) = (u ++ [joinP z p]).map to106 := by
                rw [List.map_append, List.map_append, List.map_singleton, List.map_singleton, set_last _ _ _ _ (by simp)]
              rw [← e] at again
              exact again
          · exact Ev.neg hz (put (ofStep_put u z p hnone (fun hc => hz hc.2)))
      · refine Ev.neg hp ?_
        rcases List.eq_nil_or_concat out with rfl | ⟨u, z, rfl⟩
        · exact put (ofStep_nil p hnone)
        · rw [List.concat_eq_append] at *
          exact put (ofStep_put u z p hnone (fun hc => hp hc.1))
theorem ev_doc_of (l : List S109) (hn : l.length ≤ 4000000000) (ht : textSum l ≤ 4000000000) : Ev (fun k => doc_Of.f k (l.map to106)) ((ofP l).map to106) :=
  doc_of_in l hn ht l [] [] 0 0 rfl rfl (Nat.le_refl _) (fun x hx => (by cases hx)) (by omega)
theorem ref_of_in (l : List S109) (hn : l.length ≤ 4000000000) (ht : textSum l ≤ 4000000000) :
    ∀ (rest done out : List S109) (i : Int) (M : Nat), l = done ++ rest → i = done.length → out.length ≤ done.length → (∀ x ∈ out, x.f4.size ≤ M) → M + textSum rest ≤ 4000000000 →
    Ev (fun k => tripartiteref07_Of.l0 k l out i) (rest.foldl ofStep out)
  | [], done, out, i, M, hl, ei, ho, hm, hM => by
    refine Ev.succ ?_
    simp only [tripartiteref07_Of.l0]
    refine Ev.neg (by rw [hl]; simp; omega) (Ev.val rfl)
  | p :: rest, done, out, i, M, hl, ei, ho, hm, hM => by
    have hsz : l.length = done.length + (rest.length + 1) := by rw [hl]; simp
    have hw : wrap64 (i + 1) = i + 1 := wrap_in (by omega) (by omega)
    obtain ⟨hb1, hb2⟩ := step_bound M out p hm
    have hts : textSum (p :: rest) = p.f4.size + textSum rest := by simp [textSum]
    have again := ref_of_in l hn ht rest (done ++ [p]) (ofStep out p) (i + 1) (M + p.f4.size) (by rw [hl]; simp) (by simp; omega) (by simp; omega) hb2 (by omega)
    have htext : ∀ q : S109, tripartiteref07_text.f q.f0 q.f1 q.f2 q.f3 q.f4 q.f5 q.f6 q.f7 q.f8 = some (isTextP q) := fun q => rfl
    have key : ∀ b : Bool, b = isNoneP p → Ev (fun k => tripartiteref07_Of.j1 k l out i (out.length : Int) b) ((p :: rest).foldl ofStep out) := by
      intro b hb
      subst hb
      refine Ev.succ ?_
      simp only [tripartiteref07_Of.j1, hw, rd109_at l i done rest p hl ei, htext]
      by_cases hnone : isNoneP p = true
      · refine Ev.pos hnone ?_
        rw [List.foldl_cons, ofStep_none out p hnone]
        rw [ofStep_none out p hnone] at again
        exact again
      · refine Ev.neg hnone (Ev.pos (by omega) (Ev.pos (by omega) (Ev.bind (Ev.const rfl) ?_)))
        have put : ofStep out p = out ++ [p] → Ev (fun k => if out.length < 1099511627776 then tripartiteref07_Of.l0 k l (out ++ [(⟨p.f0, p.f1, p.f2, p.f3, p.f4, p.f5, p.f6, p.f7, p.f8⟩ : S109)]) (i + 1) else none) ((p :: rest).foldl ofStep out) := by
          intro e
          refine Ev.pos (by omega) ?_
          rw [List.foldl_cons, e]
          rw [e] at again
          exact again
        by_cases hp : isTextP p = true
        · refine Ev.pos hp ?_
          rcases List.eq_nil_or_concat out with rfl | ⟨u, z, rfl⟩
          · refine Ev.neg (by simp) (put (ofStep_nil p hnone))
          · rw [List.concat_eq_append] at *
            have hul : ((u ++ [z]).length : Int) = u.length + 1 := by simp
            have hwl : wrap64 (((u ++ [z]).length : Int) - 1) = u.length := by rw [hul, wrap_in (by simp at ho; omega) (by simp at ho; omega)]; omega
            have hrd : rd_T109 (u ++ [z]) (u.length : Int) = z := rd109_at (u ++ [z]) _ u [] z rfl rfl
            simp only [hwl, hrd, htext]
            refine Ev.pos (by rw [hul]; omega) (Ev.pos (by omega) (Ev.pos (by rw [hul]; omega) (Ev.bind (Ev.const rfl) ?_)))
            by_cases hz : isTextP z = true
            · refine Ev.pos hz (Ev.pos ?_ ?_)
              · have := hm z (by simp)
                omega
              · rw [List.foldl_cons]
                rw [ofStep_join u z p hnone hp hz] at again ⊢
                have e : (u ++ [z]).set (u.length : Int).toNat (joinP z p) = u ++ [joinP z p] := set_last _ _ _ _ rfl
                have g : ∀ o, o = u ++ [joinP z p] → Ev (fun k => tripartiteref07_Of.l0 k l o (i + 1)) (List.foldl ofStep (u ++ [joinP z p]) rest) := fun o ho => by rw [ho]; exact again
                exact g _ e
            · exact Ev.neg hz (put (ofStep_put u z p hnone (fun hc => hz hc.2)))
        · refine Ev.neg hp ?_
          rcases List.eq_nil_or_concat out with rfl | ⟨u, z, rfl⟩
          · exact put (ofStep_nil p hnone)
          · rw [List.concat_eq_append] at *
            exact put (ofStep_put u z p hnone (fun hc => hp hc.1))
    refine Ev.succ ?_
    simp only [tripartiteref07_Of.l0, rd109_at l i done rest p hl ei, htext]
    refine Ev.pos (by omega) (Ev.pos (by omega) (Ev.bind (Ev.const rfl) ?_))
    by_cases hp : isTextP p = true
    · refine Ev.pos hp (key _ ?_)
      unfold isNoneP; rw [hp, Bool.true_and]
      cases p.f4.toList <;> rfl
    · refine Ev.neg hp (key _ ?_)
      unfold isNoneP
      rw [Bool.not_eq_true] at hp
      rw [hp]; rfl
theorem ev_ref_of (l : List S109) (hn : l.length ≤ 4000000000) (ht : textSum l ≤ 4000000000) : Ev (fun k => tripartiteref07_Of.f k l) (ofP l) :=
  ref_of_in l hn ht l [] [] 0 0 rfl rfl (Nat.le_refl _) (fun x hx => (by cases hx)) (by omega)
def eqP (x y : S109) : Bool := x.f0.toList == y.f0.toList && (x.f1.toList == y.f1.toList && (x.f2.toList == y.f2.toList && (x.f3 == y.f3 && (x.f4.toList == y.f4.toList && (x.f5.toList == y.f5.toList && (x.f6.toList == y.f6.toList && (x.f7.toList == y.f7.toList && x.f8 == y.f8)))))))
theorem eqP_refl (x : S109) : eqP x x = true := by simp [eqP]
def sameP : List S109 → List S109 → Bool
  | [], [] => true
  | x :: a, y :: b => eqP x y && sameP a b
  | _, _ => false
theorem sameP_refl : ∀ l : List S109, sameP l l = true
  | [] => rfl
  | x :: l => by simp [sameP, eqP_refl, sameP_refl l]
theorem sameP_length : ∀ a b : List S109, sameP a b = true → a.length = b.length
  | [], [], _ => rfl
  | x :: a, y :: b, h => by simp [sameP] at h; simp [sameP_length a b h.2]
  | [], y :: b, h => by simp [sameP] at h
  | x :: a, [], h => by simp [sameP] at h
theorem ref_same_in (a b : List S109) (hn : a.length ≤ 4000000000) (hab : a.length = b.length) : ∀ (ra rb da db : List S109) (i : Int), a = da ++ ra → b = db ++ rb → da.length = db.length → i = da.length → Ev (fun k => tripartiteref07_Same.l0 k a b i) (sameP ra rb)
  | [], rb, da, db, i, ha, hb, hd, ei => by
    have : rb = [] := by
      rw [ha, hb] at hab; simp at hab; exact List.length_eq_zero_iff.1 (by omega)
    subst this
    refine Ev.succ ?_
    simp only [tripartiteref07_Same.l0]
    refine Ev.neg (by rw [ha]; simp; omega) (Ev.val rfl)
  | x :: ra, [], da, db, i, ha, hb, hd, ei => by
    rw [ha, hb] at hab; simp at hab; omega
  | x :: ra, y :: rb, da, db, i, ha, hb, hd, ei => by
    have hsz : a.length = da.length + (ra.length + 1) := by rw [ha]; simp
    have hw : wrap64 (i + 1) = i + 1 := wrap_in (by omega) (by omega)
    refine Ev.succ ?_
    simp only [tripartiteref07_Same.l0, hw, rd109_at a i da ra x ha ei, rd109_at b i db rb y hb (by omega)]
    refine Ev.pos (by omega) (Ev.pos (by omega) (Ev.pos (by omega) ?_))
    by_cases he : eqP x y = true
    · refine Ev.neg ?_ ?_
      · unfold eqP at he; simp only [Bool.and_eq_true] at he
        obtain ⟨h0, h1, h2, h3, h4, h5, h6, h7, h8⟩ := he
        simp [h0, h1, h2, h3, h4, h5, h6, h7, h8]
      · rw [show sameP (x :: ra) (y :: rb) = sameP ra rb from by simp [sameP, he]]
        exact ref_same_in a b hn hab ra rb (da ++ [x]) (db ++ [y]) (i + 1) (by rw [ha]; simp) (by rw [hb]; simp) (by simp [hd]) (by simp; omega)
    · refine Ev.pos ?_ (Ev.val ?_)
      · rw [Bool.not_eq_true] at he
        have h2 : (!eqP x y) = true := by rw [he]; rfl
        unfold eqP at h2
        simpa only [Bool.not_and] using h2
      · rw [Bool.not_eq_true] at he; simp [sameP, he]
theorem ev_ref_same (a b : List S109) (hn : a.length ≤ 4000000000) (hm : b.length ≤ 4000000000) : Ev (fun k => tripartiteref07_Same.f k a b) (sameP a b) := by
  unfold tripartiteref07_Same.f
  by_cases h : (a.length : Int) = b.length
  · refine Ev.pos h (ref_same_in a b hn (by omega) a b [] [] 0 rfl rfl rfl rfl)
  · refine Ev.neg h (Ev.val ?_)
    cases hs : sameP a b with
    | false => rfl
    | true => exact absurd (by rw [sameP_length a b hs]) h
theorem doc_same_in (a b : List S109) (hn : a.length ≤ 4000000000) (hab : a.length = b.length) : ∀ (ra rb da db : List S109) (i : Int), a = da ++ ra → b = db ++ rb → da.length = db.length → i = da.length →
    Ev (fun k => doc_Part.l0 k (a.map to106) (b.map to106) ((a.map to106).length : Int) i) (sameP ra rb)
  | [], rb, da, db, i, ha, hb, hd, ei => by
    have : rb = [] := by
      rw [ha, hb] at hab; simp at hab; exact List.length_eq_zero_iff.1 (by omega)
    subst this
    refine Ev.succ ?_
    simp only [doc_Part.l0]
    refine Ev.neg (by rw [ha]; simp; omega) (Ev.val rfl)
  | x :: ra, [], da, db, i, ha, hb, hd, ei => by
    rw [ha, hb] at hab; simp at hab; omega
  | x :: ra, y :: rb, da, db, i, ha, hb, hd, ei => by
    have hsz : a.length = da.length + (ra.length + 1) := by rw [ha]; simp
    have hw : wrap64 (i + 1) = i + 1 := wrap_in (by omega) (by omega)
    have la : ((a.map to106).length : Int) = a.length := by simp
    have lb : ((b.map to106).length : Int) = a.length := by simp [hab]
    refine Ev.succ ?_
    simp only [doc_Part.l0, hw, rd106_map a i da ra x ha ei, rd106_map b i db rb y hb (by omega)]
    refine Ev.pos (by omega) (Ev.pos (by omega) (Ev.pos (by omega) (Ev.pos (by omega) ?_)))
    by_cases he : eqP x y = true
    · refine Ev.neg ?_ ?_
      · unfold eqP at he; simp only [Bool.and_eq_true] at he
        obtain ⟨h0, h1, h2, h3, h4, h5, h6, h7, h8⟩ := he
        simp [to106, h0, h1, h2, h3, h4, h5, h6, h7, h8]
      · rw [show sameP (x :: ra) (y :: rb) = sameP ra rb from by simp [sameP, he]]
        exact doc_same_in a b hn hab ra rb (da ++ [x]) (db ++ [y]) (i + 1) (by rw [ha]; simp) (by rw [hb]; simp) (by simp [hd]) (by simp; omega)
    · refine Ev.pos ?_ (Ev.val ?_)
      · rw [Bool.not_eq_true] at he
        have h2 : (!eqP x y) = true := by rw [he]; rfl
        unfold eqP at h2
        unfold to106
        simpa only [Bool.not_and, Bool.or_assoc] using h2
      · rw [Bool.not_eq_true] at he; simp [sameP, he]
theorem ev_doc_same (a b : List S109) (hn : a.length ≤ 4000000000) (hm : b.length ≤ 4000000000) : Ev (fun k => doc_Same.f k (a.map to106) (b.map to106)) (sameP a b) := by
  unfold doc_Same.f doc_Part.f
  refine Ev.bind (a := sameP a b) ?_ (Ev.val rfl)
  by_cases h : (a.length : Int) = b.length
  · refine Ev.pos (by simpa using h) (doc_same_in a b hn (by omega) a b [] [] 0 rfl rfl rfl rfl)
  · refine Ev.neg (by simpa using h) (Ev.val ?_)
    cases hs : sameP a b with
    | false => rfl
    | true => exact absurd (by rw [sameP_length a b hs]) h
def sizesP (x : S109) : Nat := x.f4.size + x.f5.size + x.f6.size + x.f7.size + x.f0.size + x.f1.size + x.f2.size
def sumP (l : List S109) : Nat := (l.map sizesP).sum
def fewP (l : List S109) : Bool := decide (l.length ≤ 60) && decide (sumP l ≤ 3000)
theorem few_many (l : List S109) (hn : l.length ≤ 4000000000000) (h60 : 60 < l.length) : ∀ (rest done : List S109) (x i : Int), l = done ++ rest → i = done.length → Ev (fun k => tripartitelaw07_Few.l0 k l x i) false
  | [], done, x, i, hl, ei => by
    refine Ev.succ ?_
    simp only [tripartitelaw07_Few.l0]
    refine Ev.neg (by rw [hl]; simp; omega) (Ev.neg (by omega) (Ev.val rfl))
  | p :: rest, done, x, i, hl, ei => by
    have hsz : l.length = done.length + (rest.length + 1) := by rw [hl]; simp
    have hw : wrap64 (i + 1) = i + 1 := wrap_in (by omega) (by omega)
    refine Ev.succ ?_
    simp only [tripartitelaw07_Few.l0, hw]
    refine Ev.pos (by omega) (Ev.pos (by omega) ?_)
    exact few_many l hn h60 rest (done ++ [p]) _ (i + 1) (by rw [hl]; simp) (by simp; omega)
theorem few_few (l : List S109) (h60 : l.length ≤ 60) (hs : ∀ x ∈ l, sizesP x ≤ 985162418458624) : ∀ (rest done : List S109) (x i : Int), l = done ++ rest → i = done.length → x = sumP done → Ev (fun k => tripartitelaw07_Few.l0 k l x i) (decide (sumP l ≤ 3000))
  | [], done, x, i, hl, ei, ex => by
    refine Ev.succ ?_
    simp only [tripartitelaw07_Few.l0]
    refine Ev.neg (by rw [hl]; simp; omega) (Ev.pos (by omega) (Ev.val ?_))
    rw [hl, List.append_nil, ex]
    exact decide_eq_decide.2 (by omega)
  | p :: rest, done, x, i, hl, ei, ex => by
    have hsz : l.length = done.length + (rest.length + 1) := by rw [hl]; simp
    have hw : wrap64 (i + 1) = i + 1 := wrap_in (by omega) (by omega)
    have hsum : ∀ d : List S109, (∀ y ∈ d, y ∈ l) → sumP d ≤ d.length * 985162418458624 := by
      intro d
      induction d with
      | nil => intro _; simp [sumP]
      | cons y d ih =>
        intro hd
        have h1 := ih (fun z hz => hd z (by simp [hz]))
        have h2 := hs y (hd y (by simp))
        simp only [sumP, List.map_cons, List.sum_cons, List.length_cons] at h1 ⊢
        omega
    have hd := hsum done (fun y hy => by rw [hl]; simp [hy])
    have hp := hs p (by rw [hl]; simp)
    have hdl : done.length * 985162418458624 ≤ 60 * 985162418458624 := Nat.mul_le_mul_right _ (by omega)
    have hpe : sizesP p = p.f4.size + p.f5.size + p.f6.size + p.f7.size + p.f0.size + p.f1.size + p.f2.size := rfl
    refine Ev.succ ?_
    simp only [tripartitelaw07_Few.l0, hw, rd109_at l i done rest p hl ei]
    refine Ev.pos (by omega) (Ev.pos (by omega) ?_)
    refine few_few l h60 hs rest (done ++ [p]) _ (i + 1) (by rw [hl]; simp) (by simp; omega) ?_
    have e : sumP (done ++ [p]) = sumP done + sizesP p := by simp [sumP]
    rw [e]
    clear hsum hs hdl hw
    subst ex
    generalize sumP done = q at hd ⊢
    have hq : q ≤ 59109745107517440 := Nat.le_trans hd (Nat.le_trans (Nat.mul_le_mul_right _ (show done.length ≤ 60 by omega)) (by decide))
    clear hd
    rw [wrap_in (n := (q : Int) + p.f4.size) (by omega) (by omega)]
    rw [wrap_in (n := (q : Int) + p.f4.size + p.f5.size) (by omega) (by omega)]
    rw [wrap_in (n := (q : Int) + p.f4.size + p.f5.size + p.f6.size) (by omega) (by omega)]
    rw [wrap_in (n := (q : Int) + p.f4.size + p.f5.size + p.f6.size + p.f7.size) (by omega) (by omega)]
    rw [wrap_in (n := (q : Int) + p.f4.size + p.f5.size + p.f6.size + p.f7.size + p.f0.size) (by omega) (by omega)]
    rw [wrap_in (n := (q : Int) + p.f4.size + p.f5.size + p.f6.size + p.f7.size + p.f0.size + p.f1.size) (by omega) (by omega)]
    rw [wrap_in (n := (q : Int) + p.f4.size + p.f5.size + p.f6.size + p.f7.size + p.f0.size + p.f1.size + p.f2.size) (by omega) (by omega)]
    omega
theorem ev_few (l : List S109) (hn : l.length ≤ 4000000000000) (hs : ∀ x ∈ l, sizesP x ≤ 985162418458624) : Ev (fun k => tripartitelaw07_Few.f k l) (fewP l) := by
  unfold tripartitelaw07_Few.f fewP
  by_cases h : l.length ≤ 60
  · rw [decide_eq_true h, Bool.true_and]; exact few_few l h hs l [] 0 0 rfl rfl rfl
  · rw [decide_eq_false h, Bool.false_and]; exact few_many l hn (by omega) l [] 0 0 rfl rfl
theorem few_text {l : List S109} (h : fewP l = true) : l.length ≤ 60 ∧ textSum l ≤ 3000 ∧ ∀ x ∈ l, sizesP x ≤ 3000 := by
  unfold fewP at h
  simp only [Bool.and_eq_true, decide_eq_true_eq] at h
  have key : ∀ d : List S109, textSum d ≤ sumP d ∧ ∀ x ∈ d, sizesP x ≤ sumP d := by
    intro d
    induction d with
    | nil => exact ⟨by simp [textSum, sumP], fun x hx => (by cases hx)⟩
    | cons y d ih =>
      have hpe : sizesP y = y.f4.size + y.f5.size + y.f6.size + y.f7.size + y.f0.size + y.f1.size + y.f2.size := rfl
      refine ⟨?_, fun x hx => ?_⟩
      · have := ih.1
        simp only [textSum, sumP, List.map_cons, List.sum_cons] at this ⊢
        omega
      · rcases List.mem_cons.1 hx with rfl | hx
        · simp only [sumP, List.map_cons, List.sum_cons]; omega
        · have := ih.2 x hx
          simp only [sumP, List.map_cons, List.sum_cons] at this ⊢; omega
  have h1 := key l
  exact ⟨h.1, by omega, fun x hx => by have := h1.2 x hx; omega⟩
end Go.Proofs.Ytfiamddinkokbaa.F
end

section
set_option linter.unusedVariables false
set_option linter.unusedSimpArgs false
namespace Go.Proofs.Ytfiamddinkokbaa.F
open Go.RowKit Go.Proofs.YtfiamddinkokbaaW.PrintWords Go.Proofs.YtfiamddinkokbaaW.PrintLast Go.Proofs.YtfiamddinkokbaaW.PrintMore
set_option linter.unusedVariables false
set_option linter.unusedSimpArgs false
theorem small_sizes {x : S109} (h : small109 x) : sizesP x ≤ 985162418458624 := by
  unfold small109 at h; unfold sizesP; omega
theorem pureDocJoins (l0 l1 : List S109) (w0 : ∀ x ∈ l0, small109 x) (y0 : l0.length ≤ 1954687338182) (w1 : ∀ x ∈ l1, small109 x) (y1 : l1.length ≤ 1954687338182) : ∃ k, tripartitelaw07_DocJoins.f k l0 l1 = some true := by
  refine Ev.get ?_
  unfold tripartitelaw07_DocJoins.f
  have told : Ev (fun k => tripartitelaw07_DocJoins.j0 k l0 l1 true) true := by
    refine Ev.succ ?_
    simp only [tripartitelaw07_DocJoins.j0]
    exact Ev.pos (by trivial) (Ev.bind ev_told07 (Ev.val rfl))
  refine Ev.bind (ev_few l0 (by omega) (fun x hx => small_sizes (w0 x hx))) ?_
  by_cases h0 : fewP l0 = true
  · refine Ev.pos h0 (Ev.bind (ev_few l1 (by omega) (fun x hx => small_sizes (w1 x hx))) ?_)
    by_cases h1 : fewP l1 = true
    · obtain ⟨n0, t0, _⟩ := few_text h0
      obtain ⟨n1, t1, _⟩ := few_text h1
      obtain ⟨nb, tb⟩ := of_bound l0
      have tq : textSum (ofP l0) ≤ 60 * 3000 := by
        have key : ∀ d : List S109, (∀ x ∈ d, x.f4.size ≤ 3000) → textSum d ≤ d.length * 3000 := by
          intro d
          induction d with
          | nil => intro _; simp [textSum]
          | cons y d ih =>
            intro hd
            have h1 := ih (fun z hz => hd z (by simp [hz]))
            have h2 := hd y (by simp)
            simp only [textSum, List.map_cons, List.sum_cons, List.length_cons] at h1 ⊢
            omega
        have hk := key (ofP l0) (fun x hx => by have := tb x hx; omega)
        clear key tb told
        exact Nat.le_trans hk (Nat.mul_le_mul_right _ (by omega))
      rw [h1]
      refine Ev.succ ?_
      simp only [tripartitelaw07_DocJoins.j0]
      refine Ev.neg (by decide) ?_
      refine Ev.bind (ev_to l0 (by omega)) (Ev.bind (ev_doc_of l0 (by omega) (by omega)) (Ev.bind ev_told07 (Ev.pos rfl ?_)))
      refine Ev.bind (ev_from _ (by simp; omega)) (Ev.bind (ev_ref_of l0 (by omega) (by omega)) ?_)
      rw [map_to109]
      refine Ev.bind (ev_ref_same _ _ (by omega) (by omega)) (Ev.pos (sameP_refl _) ?_)
      refine Ev.bind (ev_from _ (by simp; omega)) ?_
      rw [map_to109]
      refine Ev.bind (ev_ref_same _ _ (by omega) (by omega)) (Ev.pos (sameP_refl _) ?_)
      refine Ev.bind (ev_to l1 (by omega)) (Ev.bind (ev_doc_same l0 l1 (by omega) (by omega)) (Ev.bind (ev_ref_same l0 l1 (by omega) (by omega)) (Ev.pos (by simp) ?_)))
      refine Ev.bind (ev_doc_of (ofP l0) (by omega) (by omega)) ?_
      rw [of_of]
      exact Ev.bind (ev_doc_same _ _ (by omega) (by omega)) (Ev.val (sameP_refl _))
    · rw [Bool.not_eq_true] at h1
      rw [h1]; exact told
  · exact Ev.neg h0 told
end Go.Proofs.Ytfiamddinkokbaa.F
namespace Go.Proofs.Ytfiamddinkokbaa
open Go.Proofs.Ytfiamddinkokbaa.F
theorem Pure.DocJoins (l0 l1 : List S109) (w0 : ∀ x ∈ l0, small109 x) (y0 : l0.length ≤ 1954687338182) (w1 : ∀ x ∈ l1, small109 x) (y1 : l1.length ≤ 1954687338182) : ∃ k, tripartitelaw07_DocJoins.f k l0 l1 = some true :=
  pureDocJoins l0 l1 w0 y0 w1 y1
end Go.Proofs.Ytfiamddinkokbaa
end
