/- Texts joined into one file (wip/tools/pack.py): Fn63 -/
import Derived.Test.YtfiamddinkokbaaPB3
set_option linter.unusedVariables false
set_option linter.unusedSimpArgs false
namespace Go.Proofs.Ytfiamddinkokbaa.F
open Go.RowKit Go.Proofs.YtfiamddinkokbaaW.PrintWords Go.Proofs.YtfiamddinkokbaaW.PrintLast Go.Proofs.YtfiamddinkokbaaW.PrintMore
attribute [local go_sem] max2_int min2_int max_two min_two max_three min_three max_four min_four
def tripartitelaw09_narrow.f (a0 : Int) : Option (Int) := if a0 > 300 then (if a0 ≤ 1073741824 then (some (wrap64 ((Int.tmod a0 300) + 1))) else (some a0)) else (some a0)
set_option maxHeartbeats 8000000 in
set_option maxRecDepth 100000 in
theorem tripartitelaw09_narrow.calls (a0 : Int) (r : Int) (w : World) (h : tripartitelaw09_narrow.f a0 = some r) :
  Calls Try.prog 63 #[.int .i64 a0] w fun e w' => e = .returned (.int .i64 r) ∧ Drawn0 w w' := by
 have H : (if a0 > 300 then (if a0 ≤ 1073741824 then (some (wrap64 ((Int.tmod a0 300) + 1))) else (some a0)) else (some a0)) = some r := h
 clear h
 by_cases c2 : a0 > 300
 ·rw [if_pos c2] at H
  have c2b0 : decide (300 < a0) = true := decide_eq_true c2
  clear c2
  by_cases c3 : a0 ≤ 1073741824
  ·rw [if_pos c3] at H
   have c3b0 : decide (a0 ≤ 1073741824) = true := decide_eq_true c3
   clear c3
   obtain rfl := Option.some.inj H
   go_enter Try.func63, Try.ntmps63
   go_wp2
   go_ret
   exact ⟨by first | rfl | (simp; done) | (simp [*]; done), by repeat (first | exact Drawn0.refl _ | apply Drawn0.step)⟩
  ·rw [if_neg c3] at H
   have c3b0 : decide (a0 ≤ 1073741824) = false := decide_eq_false c3
   clear c3
   obtain rfl := Option.some.inj H
   go_enter Try.func63, Try.ntmps63
   go_wp2
   go_ret
   exact ⟨by first | rfl | (simp; done) | (simp [*]; done), by repeat (first | exact Drawn0.refl _ | apply Drawn0.step)⟩
 ·rw [if_neg c2] at H
  have c2b0 : decide (300 < a0) = false := decide_eq_false c2
  clear c2
  obtain rfl := Option.some.inj H
  go_enter Try.func63, Try.ntmps63
  go_wp2
  go_ret
  exact ⟨by first | rfl | (simp; done) | (simp [*]; done), by repeat (first | exact Drawn0.refl _ | apply Drawn0.step)⟩
end Go.Proofs.Ytfiamddinkokbaa.F
