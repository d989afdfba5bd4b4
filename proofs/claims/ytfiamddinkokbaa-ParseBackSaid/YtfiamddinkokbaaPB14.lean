/- Texts joined into one file (wip/tools/pack.py): Fn48 -/
import Derived.Test.YtfiamddinkokbaaPB3
import Derived.Test.YtfiamddinkokbaaPB6
import Derived.Test.YtfiamddinkokbaaPB8
import Derived.Test.YtfiamddinkokbaaPB11
import Derived.Test.YtfiamddinkokbaaPB12
import Derived.Test.YtfiamddinkokbaaPB13
set_option linter.unusedVariables false
set_option linter.unusedSimpArgs false
namespace Go.Proofs.Ytfiamddinkokbaa.F
open Go.RowKit Go.Proofs.YtfiamddinkokbaaW.PrintWords Go.Proofs.YtfiamddinkokbaaW.PrintLast Go.Proofs.YtfiamddinkokbaaW.PrintMore
attribute [local go_sem] max2_int min2_int max_two min_two max_three min_three max_four min_four
def tripartiteref08_Print.l0 : Nat → List (S109) → Int → ByteArray → Int → Option (ByteArray × Int)
 | 0, _, _, _, _ => none
 | k + 1, x0, x1, x6, x7 => if x7 < (x0.length : Int) then (if 0 ≤ x7 then (if x6.size + ((rd_T109 x0 x7).f4).size ≤ 9223372036854775807 then (if ((rd_T109 x0 x7).f3 = true) then ((tripartiteref08_side.f ((rd_T109 x0 x7).f5)).bind fun bt400 => ((tripartiteref08_side.f ((rd_T109 x0 x7).f6)).bind fun bt402 => ((tripartiteref08_side.f ((rd_T109 x0 x7).f7)).bind fun bt404 => ((tripartiteref08_line.f k 60 false ((rd_T109 x0 x7).f0) x1).bind fun t406 => (if (x6 ++ ((rd_T109 x0 x7).f4)).size + t406.size ≤ 9223372036854775807 then (if ((x6 ++ ((rd_T109 x0 x7).f4)) ++ t406).size + bt400.1.size ≤ 9223372036854775807 then (if (rd_T109 x0 x7).f8 = true then ((tripartiteref08_line.f k 124 bt400.2 ((rd_T109 x0 x7).f1) x1).bind fun t407 => (if (((x6 ++ ((rd_T109 x0 x7).f4)) ++ t406) ++ bt400.1).size + t407.size ≤ 9223372036854775807 then (if ((((x6 ++ ((rd_T109 x0 x7).f4)) ++ t406) ++ bt400.1) ++ t407).size + bt402.1.size ≤ 9223372036854775807 then ((tripartiteref08_line.f k 61 bt402.2 (⟨#[]⟩ : ByteArray) x1).bind fun t408 => (if (((((x6 ++ ((rd_T109 x0 x7).f4)) ++ t406) ++ bt400.1) ++ t407) ++ bt402.1).size + t408.size ≤ 9223372036854775807 then (if ((((((x6 ++ ((rd_T109 x0 x7).f4)) ++ t406) ++ bt400.1) ++ t407) ++ bt402.1) ++ t408).size + bt404.1.size ≤ 9223372036854775807 then ((tripartiteref08_line.f k 62 bt404.2 ((rd_T109 x0 x7).f2) x1).bind fun t409 => (if (((((((x6 ++ ((rd_T109 x0 x7).f4)) ++ t406) ++ bt400.1) ++ t407) ++ bt402.1) ++ t408) ++ bt404.1).size + t409.size ≤ 9223372036854775807 then (tripartiteref08_Print.l0 k x0 x1 ((((((((x6 ++ ((rd_T109 x0 x7).f4)) ++ t406) ++ bt400.1) ++ t407) ++ bt402.1) ++ t408) ++ bt404.1) ++ t409) (wrap64 (x7 + 1))) else (none))) else (none)) else (none))) else (none)) else (none))) else ((tripartiteref08_line.f k 61 bt400.2 (⟨#[]⟩ : ByteArray) x1).bind fun t410 => (if (((x6 ++ ((rd_T109 x0 x7).f4)) ++ t406) ++ bt400.1).size + t410.size ≤ 9223372036854775807 then (if ((((x6 ++ ((rd_T109 x0 x7).f4)) ++ t406) ++ bt400.1) ++ t410).size + bt404.1.size ≤ 9223372036854775807 then ((tripartiteref08_line.f k 62 bt404.2 ((rd_T109 x0 x7).f2) x1).bind fun t411 => (if (((((x6 ++ ((rd_T109 x0 x7).f4)) ++ t406) ++ bt400.1) ++ t410) ++ bt404.1).size + t411.size ≤ 9223372036854775807 then (tripartiteref08_Print.l0 k x0 x1 ((((((x6 ++ ((rd_T109 x0 x7).f4)) ++ t406) ++ bt400.1) ++ t410) ++ bt404.1) ++ t411) (wrap64 (x7 + 1))) else (none))) else (none)) else (none)))) else (none)) else (none)))))) else (tripartiteref08_Print.l0 k x0 x1 (x6 ++ ((rd_T109 x0 x7).f4)) (wrap64 (x7 + 1)))) else (none)) else (none)) else (some (x6, 0))
def tripartiteref08_Print.f (k : Nat) (l0 : List (S109)) (a1 : Int) : Option (ByteArray × Int) := (tripartiteref08_wide.f a1).bind fun t395 => (if t395 = true then ((tripartiteref07_Right.f k l0).bind fun t396 => (if t396 = true then ((tripartiteref07_Fits.f k l0 a1).bind fun t397 => (if t397 = true then (tripartiteref08_Print.l0 k l0 a1 (⟨#[]⟩ : ByteArray) 0) else (some ((⟨#[]⟩ : ByteArray), 4)))) else (some ((⟨#[]⟩ : ByteArray), 11)))) else (some ((⟨#[]⟩ : ByteArray), 4)))
theorem tripartiteref08_Print.mono_l : ∀ k, (∀ y0 y1 y2 y3, LeO (tripartiteref08_Print.l0 k y0 y1 y2 y3) (tripartiteref08_Print.l0 (k + 1) y0 y1 y2 y3))
 | 0 => fun _ _ _ _ r h => by simp [tripartiteref08_Print.l0] at h
 | k + 1 => by
  have ih0 := tripartiteref08_Print.mono_l k
  ·intro y0 y1 y2 y3
   unfold tripartiteref08_Print.l0
   repeat' first
   | (with_reducible exact ih0 _ _ _ _)
   | (with_reducible exact tripartiteref07_Fits.mono _ _ _)
   | (with_reducible exact tripartiteref07_Right.mono _ _)
   | (with_reducible exact tripartiteref08_line.mono _ _ _ _ _)
   | (with_reducible exact LeO.refl _)
   | (with_reducible exact LeO.none _)
   | (with_reducible refine LeO.ite ?_ ?_)
   | (with_reducible refine LeO.bind ?_ (fun _ => ?_))
   | exact ih0 _ _ _ _
   | exact tripartiteref07_Fits.mono _ _ _
   | exact tripartiteref07_Right.mono _ _
   | exact tripartiteref08_line.mono _ _ _ _ _
   | exact LeO.none _
   | refine LeO.ite ?_ ?_
   | refine LeO.bind ?_ (fun _ => ?_)
theorem tripartiteref08_Print.mono : ∀ a0 a1 k, LeO (tripartiteref08_Print.f k a0 a1) (tripartiteref08_Print.f (k + 1) a0 a1) := by
 intro a0 a1 k
 have ih0 := tripartiteref08_Print.mono_l k
 unfold tripartiteref08_Print.f
 repeat' first
   | (with_reducible exact ih0 _ _ _ _)
   | (with_reducible exact tripartiteref07_Fits.mono _ _ _)
   | (with_reducible exact tripartiteref07_Right.mono _ _)
   | (with_reducible exact tripartiteref08_line.mono _ _ _ _ _)
   | (with_reducible exact LeO.refl _)
   | (with_reducible exact LeO.none _)
   | (with_reducible refine LeO.ite ?_ ?_)
   | (with_reducible refine LeO.bind ?_ (fun _ => ?_))
   | exact ih0 _ _ _ _
   | exact tripartiteref07_Fits.mono _ _ _
   | exact tripartiteref07_Right.mono _ _
   | exact tripartiteref08_line.mono _ _ _ _ _
   | exact LeO.none _
   | refine LeO.ite ?_ ?_
   | refine LeO.bind ?_ (fun _ => ?_)
def tripartiteref08_Print.T21 : Bool × List (List Nat × List Nat) := (true, [([], []), ([], []), ([1], [1]), ([], []), ([2, 3], [2, 3]), ([0, 4], [0, 4]), ([], []), ([5, 6], [5, 6]), ([], []), ([], []), ([9], [9]), ([8, 10], [8, 10]), ([], []), ([11, 12, 4], [11, 12]), ([7, 13], [7, 13]), ([14, 13, 0, 1, 2, 3, 4, 5, 6, 7, 8, 9, 10, 11, 12, 13, 14], [0, 14])])
def tripartiteref08_Print.B21 : List Nat := [0, 0, 2, 0, 14, 31, 0, 127, 0, 0, 512, 1792, 0, 7966, 16383, 32767]
theorem tripartiteref08_Print.tab21 : rtab .any (opsOf Try.f48 21) = tripartiteref08_Print.T21 := by kernel_rfl
theorem tripartiteref08_Print.bits21 : waitsOk tripartiteref08_Print.T21.2 tripartiteref08_Print.B21 = true := by kernel_rfl
set_option maxHeartbeats 8000000 in
set_option maxRecDepth 100000 in
theorem tripartiteref08_Print.calls (k : Nat) (A0 : Option Addr) (c0 : Nat) (l0 : List (S109)) (a1 : Int) (r1 : ByteArray) (r2 : Int) (w : World) (hr0 : Kd.C k109 w A0 l0.length l0) (hc0 : l0.length ≤ c0) (h : tripartiteref08_Print.f k l0 a1 = some (r1, r2)) :
  Calls Try.prog 48 #[.slice A0 l0.length c0, .int .i64 a1] w fun e w' => e = .returned (.tuple #[.string r1, .int .i64 r2]) ∧ Below w.heap.size w w' := by
 have hu109 := Try.underlying109
 have hu60 := Try.underlying60
 have HR0 := Aside0.mk hr0
 have HC0 := Aside0.mk hc0
 clear hr0 hc0
 have HB := Aside0.mk (Below.refl w.heap.size w)
 have H : ((tripartiteref08_wide.f a1).bind fun t395 => (if t395 = true then ((tripartiteref07_Right.f k l0).bind fun t396 => (if t396 = true then ((tripartiteref07_Fits.f k l0 a1).bind fun t397 => (if t397 = true then (tripartiteref08_Print.l0 k l0 a1 (⟨#[]⟩ : ByteArray) 0) else (some ((⟨#[]⟩ : ByteArray), 4)))) else (some ((⟨#[]⟩ : ByteArray), 11)))) else (some ((⟨#[]⟩ : ByteArray), 4)))) = some (r1, r2) := h
 clear h
 replace H := Option.bind_eq_some_iff.mp H
 obtain ⟨t395, A30, H⟩ := H
 replace H : (if t395 = true then ((tripartiteref07_Right.f k l0).bind fun t396 => (if t396 = true then ((tripartiteref07_Fits.f k l0 a1).bind fun t397 => (if t397 = true then (tripartiteref08_Print.l0 k l0 a1 (⟨#[]⟩ : ByteArray) 0) else (some ((⟨#[]⟩ : ByteArray), 4)))) else (some ((⟨#[]⟩ : ByteArray), 11)))) else (some ((⟨#[]⟩ : ByteArray), 4))) = some (r1, r2) := H
 have A3 := Aside0.mk A30
 clear A30
 by_cases c4 : t395 = true
 ·subst c4
  have H1 : ((tripartiteref07_Right.f k l0).bind fun t396 => (if t396 = true then ((tripartiteref07_Fits.f k l0 a1).bind fun t397 => (if t397 = true then (tripartiteref08_Print.l0 k l0 a1 (⟨#[]⟩ : ByteArray) 0) else (some ((⟨#[]⟩ : ByteArray), 4)))) else (some ((⟨#[]⟩ : ByteArray), 11)))) = some (r1, r2) := by rw [if_pos rfl] at H; exact H
  clear H
  have H := H1
  clear H1
  replace H := Option.bind_eq_some_iff.mp H
  obtain ⟨t396, A50, H⟩ := H
  replace H : (if t396 = true then ((tripartiteref07_Fits.f k l0 a1).bind fun t397 => (if t397 = true then (tripartiteref08_Print.l0 k l0 a1 (⟨#[]⟩ : ByteArray) 0) else (some ((⟨#[]⟩ : ByteArray), 4)))) else (some ((⟨#[]⟩ : ByteArray), 11))) = some (r1, r2) := H
  have A5 := Aside0.mk A50
  clear A50
  by_cases c6 : t396 = true
  ·subst c6
   have H1 : ((tripartiteref07_Fits.f k l0 a1).bind fun t397 => (if t397 = true then (tripartiteref08_Print.l0 k l0 a1 (⟨#[]⟩ : ByteArray) 0) else (some ((⟨#[]⟩ : ByteArray), 4)))) = some (r1, r2) := by rw [if_pos rfl] at H; exact H
   clear H
   have H := H1
   clear H1
   replace H := Option.bind_eq_some_iff.mp H
   obtain ⟨t397, A70, H⟩ := H
   replace H : (if t397 = true then (tripartiteref08_Print.l0 k l0 a1 (⟨#[]⟩ : ByteArray) 0) else (some ((⟨#[]⟩ : ByteArray), 4))) = some (r1, r2) := H
   have A7 := Aside0.mk A70
   clear A70
   by_cases c8 : t397 = true
   ·subst c8
    have H1 : (tripartiteref08_Print.l0 k l0 a1 (⟨#[]⟩ : ByteArray) 0) = some (r1, r2) := by rw [if_pos rfl] at H; exact H
    clear H
    have H := H1
    clear H1
    have H' := Aside0.mk H
    clear H
    go_enter Try.func48, Try.ntmps48
    go_wp2_with (first | ((with_reducible refine gate_callee (f := 90) rfl ?_); refine goesL_ (some 16) rfl rfl Try.func90 (by kernel_rfl) rfl #[.int .i64 a1] rfl (by (try simp only [List.map_toArray, List.map_cons, List.map_nil]); first | done | rfl | (simp only [List.length_drop, List.length_take]; rfl)) ?_; (with_reducible refine (tripartiteref08_wide.calls a1 true _ A3.out).mono ?_); rintro e w' ⟨rfl, ⟨nd, rfl⟩⟩; refine ⟨_, rfl, ?_⟩) | ((with_reducible refine gate_callee (f := 91) rfl ?_); refine goesL_ (some 19) rfl rfl Try.func91 (by kernel_rfl) rfl #[.slice A0 l0.length c0] rfl (by (try simp only [List.map_toArray, List.map_cons, List.map_nil]); first | done | rfl | (simp only [List.length_drop, List.length_take]; rfl)) ?_; (with_reducible refine (tripartiteref07_Right.calls k _ _ l0 true _ ?side1 ?side2 A5.out).mono ?_); (case side1 => repeat (first | exact HR0.out | (with_reducible refine Kd.C_alloc ?_ _) | (with_reducible refine Kd.C_drewN ?_ _) | (with_reducible refine Kd.C_drew ?_))); (case side2 => exact HC0.out); rintro e w9 ⟨rfl, hb⟩; refine ⟨_, rfl, ?_⟩; have n0_ := Aside0.mk (below_step (by repeat (first | (with_reducible first | exact HB.out | apply below_alloc | apply pw_below_drewN | apply below_drew1) | exact HB.out)) hb); clear HB; have HB := n0_; clear n0_; (try clear hb); (try clear hb2); (try clear hk); (try clear hi)) | ((with_reducible refine gate_callee (f := 92) rfl ?_); refine goesL_ (some 23) rfl rfl Try.func92 (by kernel_rfl) rfl #[.slice A0 l0.length c0, .int .i64 a1] rfl (by (try simp only [List.map_toArray, List.map_cons, List.map_nil]); first | done | rfl | (simp only [List.length_drop, List.length_take]; rfl)) ?_; (with_reducible refine (tripartiteref07_Fits.calls k _ _ l0 a1 true _ ?side1 ?side2 A7.out).mono ?_); (case side1 => repeat (first | exact (Kd.C_below HR0.out HB.out) | (with_reducible refine Kd.C_alloc ?_ _) | (with_reducible refine Kd.C_drewN ?_ _) | (with_reducible refine Kd.C_drew ?_))); (case side2 => exact HC0.out); rintro e w10 ⟨rfl, hb⟩; refine ⟨_, rfl, ?_⟩; have n0_ := Aside0.mk (below_step (by repeat (first | (with_reducible first | exact HB.out | apply below_alloc | apply pw_below_drewN | apply below_drew1) | exact HB.out)) hb); clear HB; have HB := n0_; clear n0_; (try clear hb); (try clear hb2); (try clear hk); (try clear hi)))
    go_loopg [6, 7] k (fun kq v6 v7 w' => ∃ (x6_1 : ByteArray) (x7_1 : Int), v6 = .string x6_1 ∧ v7 = .int .i64 x7_1 ∧ Aside0 (tripartiteref08_Print.l0 kq l0 a1 x6_1 x7_1 = some (r1, r2)) ∧ Aside0 (kq ≤ k) ∧ Aside0 (Below w.heap.size w w'))
    case atStart => exact ⟨((⟨#[]⟩ : ByteArray)), (0), (by first | rfl | (simp; done) | (simp [*]; done)), (by first | rfl | (simp; done) | (simp [*]; done)), H', ⟨Nat.le_refl _⟩, ⟨by repeat (first | (with_reducible first | exact HB.out | apply below_alloc | apply pw_below_drewN | apply below_drew1) | exact HB.out)⟩⟩
    case round =>
     clear H'
     try clear p2
     try clear c4
     try clear c6
     try clear c8
     try clear c9
     obtain ⟨x6_1, x7_1, rfl, rfl, HA, HK1, HB⟩ := hrel
     cases gk with
     | zero => exact absurd HA.out (by simp [tripartiteref08_Print.l0])
     | succ k1 =>
      have H := HA.out
      clear HA
      simp only [tripartiteref08_Print.l0] at H
      by_cases c11 : x7_1 < (l0.length : Int)
      ·rw [if_pos c11] at H
       have c11b0 : decide (x7_1 < (l0.length : Int)) = true := decide_eq_true c11
       clear c11
       by_cases c12 : 0 ≤ x7_1
       ·rw [if_pos c12] at H
        have c12b0 : decide (0 ≤ x7_1) = true := decide_eq_true c12
        clear c12
        by_cases c13 : x6_1.size + ((rd_T109 l0 x7_1).f4).size ≤ 9223372036854775807
        ·rw [if_pos c13] at H
         have c13b0 := eq_true c13
         have c13b1 : decide (x6_1.size + ((rd_T109 l0 x7_1).f4).size ≤ 9223372036854775807) = true := decide_eq_true c13
         try have c13b2 : (9223372036854775807 < x6_1.size + ((rd_T109 l0 x7_1).f4).size) = False := eq_false (Nat.not_lt.2 c13)
         obtain ⟨bq14, hbq14⟩ : ∃ b_ : Bool, b_ = ((rd_T109 l0 x7_1).f3) := ⟨_, rfl⟩
         replace H : (if (bq14 = true) then ((tripartiteref08_side.f ((rd_T109 l0 x7_1).f5)).bind fun bt400 => ((tripartiteref08_side.f ((rd_T109 l0 x7_1).f6)).bind fun bt402 => ((tripartiteref08_side.f ((rd_T109 l0 x7_1).f7)).bind fun bt404 => ((tripartiteref08_line.f k1 60 false ((rd_T109 l0 x7_1).f0) a1).bind fun t406 => (if (x6_1 ++ ((rd_T109 l0 x7_1).f4)).size + t406.size ≤ 9223372036854775807 then (if ((x6_1 ++ ((rd_T109 l0 x7_1).f4)) ++ t406).size + bt400.1.size ≤ 9223372036854775807 then (if (rd_T109 l0 x7_1).f8 = true then ((tripartiteref08_line.f k1 124 bt400.2 ((rd_T109 l0 x7_1).f1) a1).bind fun t407 => (if (((x6_1 ++ ((rd_T109 l0 x7_1).f4)) ++ t406) ++ bt400.1).size + t407.size ≤ 9223372036854775807 then (if ((((x6_1 ++ ((rd_T109 l0 x7_1).f4)) ++ t406) ++ bt400.1) ++ t407).size + bt402.1.size ≤ 9223372036854775807 then ((tripartiteref08_line.f k1 61 bt402.2 (⟨#[]⟩ : ByteArray) a1).bind fun t408 => (if (((((x6_1 ++ ((rd_T109 l0 x7_1).f4)) ++ t406) ++ bt400.1) ++ t407) ++ bt402.1).size + t408.size ≤ 9223372036854775807 then (if ((((((x6_1 ++ ((rd_T109 l0 x7_1).f4)) ++ t406) ++ bt400.1) ++ t407) ++ bt402.1) ++ t408).size + bt404.1.size ≤ 9223372036854775807 then ((tripartiteref08_line.f k1 62 bt404.2 ((rd_T109 l0 x7_1).f2) a1).bind fun t409 => (if (((((((x6_1 ++ ((rd_T109 l0 x7_1).f4)) ++ t406) ++ bt400.1) ++ t407) ++ bt402.1) ++ t408) ++ bt404.1).size + t409.size ≤ 9223372036854775807 then (tripartiteref08_Print.l0 k1 l0 a1 ((((((((x6_1 ++ ((rd_T109 l0 x7_1).f4)) ++ t406) ++ bt400.1) ++ t407) ++ bt402.1) ++ t408) ++ bt404.1) ++ t409) (wrap64 (x7_1 + 1))) else (none))) else (none)) else (none))) else (none)) else (none))) else ((tripartiteref08_line.f k1 61 bt400.2 (⟨#[]⟩ : ByteArray) a1).bind fun t410 => (if (((x6_1 ++ ((rd_T109 l0 x7_1).f4)) ++ t406) ++ bt400.1).size + t410.size ≤ 9223372036854775807 then (if ((((x6_1 ++ ((rd_T109 l0 x7_1).f4)) ++ t406) ++ bt400.1) ++ t410).size + bt404.1.size ≤ 9223372036854775807 then ((tripartiteref08_line.f k1 62 bt404.2 ((rd_T109 l0 x7_1).f2) a1).bind fun t411 => (if (((((x6_1 ++ ((rd_T109 l0 x7_1).f4)) ++ t406) ++ bt400.1) ++ t410) ++ bt404.1).size + t411.size ≤ 9223372036854775807 then (tripartiteref08_Print.l0 k1 l0 a1 ((((((x6_1 ++ ((rd_T109 l0 x7_1).f4)) ++ t406) ++ bt400.1) ++ t410) ++ bt404.1) ++ t411) (wrap64 (x7_1 + 1))) else (none))) else (none)) else (none)))) else (none)) else (none)))))) else (tripartiteref08_Print.l0 k1 l0 a1 (x6_1 ++ ((rd_T109 l0 x7_1).f4)) (wrap64 (x7_1 + 1)))) = some (r1, r2) := by rw [← hbq14] at H; exact H
         have Nbq14 := Aside0.mk hbq14
         clear hbq14
         by_cases c15 : (bq14 = true)
         ·subst c15
          have H1 : ((tripartiteref08_side.f ((rd_T109 l0 x7_1).f5)).bind fun bt400 => ((tripartiteref08_side.f ((rd_T109 l0 x7_1).f6)).bind fun bt402 => ((tripartiteref08_side.f ((rd_T109 l0 x7_1).f7)).bind fun bt404 => ((tripartiteref08_line.f k1 60 false ((rd_T109 l0 x7_1).f0) a1).bind fun t406 => (if (x6_1 ++ ((rd_T109 l0 x7_1).f4)).size + t406.size ≤ 9223372036854775807 then (if ((x6_1 ++ ((rd_T109 l0 x7_1).f4)) ++ t406).size + bt400.1.size ≤ 9223372036854775807 then (if (rd_T109 l0 x7_1).f8 = true then ((tripartiteref08_line.f k1 124 bt400.2 ((rd_T109 l0 x7_1).f1) a1).bind fun t407 => (if (((x6_1 ++ ((rd_T109 l0 x7_1).f4)) ++ t406) ++ bt400.1).size + t407.size ≤ 9223372036854775807 then (if ((((x6_1 ++ ((rd_T109 l0 x7_1).f4)) ++ t406) ++ bt400.1) ++ t407).size + bt402.1.size ≤ 9223372036854775807 then ((tripartiteref08_line.f k1 61 bt402.2 (⟨#[]⟩ : ByteArray) a1).bind fun t408 => (if (((((x6_1 ++ ((rd_T109 l0 x7_1).f4)) ++ t406) ++ bt400.1) ++ t407) ++ bt402.1).size + t408.size ≤ 9223372036854775807 then (if ((((((x6_1 ++ ((rd_T109 l0 x7_1).f4)) ++ t406) ++ bt400.1) ++ t407) ++ bt402.1) ++ t408).size + bt404.1.size ≤ 9223372036854775807 then ((tripartiteref08_line.f k1 62 bt404.2 ((rd_T109 l0 x7_1).f2) a1).bind fun t409 => (if (((((((x6_1 ++ ((rd_T109 l0 x7_1).f4)) ++ t406) ++ bt400.1) ++ t407) ++ bt402.1) ++ t408) ++ bt404.1).size + t409.size ≤ 9223372036854775807 then (tripartiteref08_Print.l0 k1 l0 a1 ((((((((x6_1 ++ ((rd_T109 l0 x7_1).f4)) ++ t406) ++ bt400.1) ++ t407) ++ bt402.1) ++ t408) ++ bt404.1) ++ t409) (wrap64 (x7_1 + 1))) else (none))) else (none)) else (none))) else (none)) else (none))) else ((tripartiteref08_line.f k1 61 bt400.2 (⟨#[]⟩ : ByteArray) a1).bind fun t410 => (if (((x6_1 ++ ((rd_T109 l0 x7_1).f4)) ++ t406) ++ bt400.1).size + t410.size ≤ 9223372036854775807 then (if ((((x6_1 ++ ((rd_T109 l0 x7_1).f4)) ++ t406) ++ bt400.1) ++ t410).size + bt404.1.size ≤ 9223372036854775807 then ((tripartiteref08_line.f k1 62 bt404.2 ((rd_T109 l0 x7_1).f2) a1).bind fun t411 => (if (((((x6_1 ++ ((rd_T109 l0 x7_1).f4)) ++ t406) ++ bt400.1) ++ t410) ++ bt404.1).size + t411.size ≤ 9223372036854775807 then (tripartiteref08_Print.l0 k1 l0 a1 ((((((x6_1 ++ ((rd_T109 l0 x7_1).f4)) ++ t406) ++ bt400.1) ++ t410) ++ bt404.1) ++ t411) (wrap64 (x7_1 + 1))) else (none))) else (none)) else (none)))) else (none)) else (none)))))) = some (r1, r2) := by rw [if_pos rfl] at H; exact H
          clear H
          have H := H1
          clear H1
          replace H := Option.bind_eq_some_iff.mp H
          obtain ⟨⟨t400, t401⟩, A160, H⟩ := H
          replace H : ((tripartiteref08_side.f ((rd_T109 l0 x7_1).f6)).bind fun bt402 => ((tripartiteref08_side.f ((rd_T109 l0 x7_1).f7)).bind fun bt404 => ((tripartiteref08_line.f k1 60 false ((rd_T109 l0 x7_1).f0) a1).bind fun t406 => (if (x6_1 ++ ((rd_T109 l0 x7_1).f4)).size + t406.size ≤ 9223372036854775807 then (if ((x6_1 ++ ((rd_T109 l0 x7_1).f4)) ++ t406).size + t400.size ≤ 9223372036854775807 then (if (rd_T109 l0 x7_1).f8 = true then ((tripartiteref08_line.f k1 124 t401 ((rd_T109 l0 x7_1).f1) a1).bind fun t407 => (if (((x6_1 ++ ((rd_T109 l0 x7_1).f4)) ++ t406) ++ t400).size + t407.size ≤ 9223372036854775807 then (if ((((x6_1 ++ ((rd_T109 l0 x7_1).f4)) ++ t406) ++ t400) ++ t407).size + bt402.1.size ≤ 9223372036854775807 then ((tripartiteref08_line.f k1 61 bt402.2 (⟨#[]⟩ : ByteArray) a1).bind fun t408 => (if (((((x6_1 ++ ((rd_T109 l0 x7_1).f4)) ++ t406) ++ t400) ++ t407) ++ bt402.1).size + t408.size ≤ 9223372036854775807 then (if ((((((x6_1 ++ ((rd_T109 l0 x7_1).f4)) ++ t406) ++ t400) ++ t407) ++ bt402.1) ++ t408).size + bt404.1.size ≤ 9223372036854775807 then ((tripartiteref08_line.f k1 62 bt404.2 ((rd_T109 l0 x7_1).f2) a1).bind fun t409 => (if (((((((x6_1 ++ ((rd_T109 l0 x7_1).f4)) ++ t406) ++ t400) ++ t407) ++ bt402.1) ++ t408) ++ bt404.1).size + t409.size ≤ 9223372036854775807 then (tripartiteref08_Print.l0 k1 l0 a1 ((((((((x6_1 ++ ((rd_T109 l0 x7_1).f4)) ++ t406) ++ t400) ++ t407) ++ bt402.1) ++ t408) ++ bt404.1) ++ t409) (wrap64 (x7_1 + 1))) else (none))) else (none)) else (none))) else (none)) else (none))) else ((tripartiteref08_line.f k1 61 t401 (⟨#[]⟩ : ByteArray) a1).bind fun t410 => (if (((x6_1 ++ ((rd_T109 l0 x7_1).f4)) ++ t406) ++ t400).size + t410.size ≤ 9223372036854775807 then (if ((((x6_1 ++ ((rd_T109 l0 x7_1).f4)) ++ t406) ++ t400) ++ t410).size + bt404.1.size ≤ 9223372036854775807 then ((tripartiteref08_line.f k1 62 bt404.2 ((rd_T109 l0 x7_1).f2) a1).bind fun t411 => (if (((((x6_1 ++ ((rd_T109 l0 x7_1).f4)) ++ t406) ++ t400) ++ t410) ++ bt404.1).size + t411.size ≤ 9223372036854775807 then (tripartiteref08_Print.l0 k1 l0 a1 ((((((x6_1 ++ ((rd_T109 l0 x7_1).f4)) ++ t406) ++ t400) ++ t410) ++ bt404.1) ++ t411) (wrap64 (x7_1 + 1))) else (none))) else (none)) else (none)))) else (none)) else (none))))) = some (r1, r2) := H
          have A16 := Aside0.mk A160
          clear A160
          replace H := Option.bind_eq_some_iff.mp H
          obtain ⟨⟨t402, t403⟩, A170, H⟩ := H
          replace H : ((tripartiteref08_side.f ((rd_T109 l0 x7_1).f7)).bind fun bt404 => ((tripartiteref08_line.f k1 60 false ((rd_T109 l0 x7_1).f0) a1).bind fun t406 => (if (x6_1 ++ ((rd_T109 l0 x7_1).f4)).size + t406.size ≤ 9223372036854775807 then (if ((x6_1 ++ ((rd_T109 l0 x7_1).f4)) ++ t406).size + t400.size ≤ 9223372036854775807 then (if (rd_T109 l0 x7_1).f8 = true then ((tripartiteref08_line.f k1 124 t401 ((rd_T109 l0 x7_1).f1) a1).bind fun t407 => (if (((x6_1 ++ ((rd_T109 l0 x7_1).f4)) ++ t406) ++ t400).size + t407.size ≤ 9223372036854775807 then (if ((((x6_1 ++ ((rd_T109 l0 x7_1).f4)) ++ t406) ++ t400) ++ t407).size + t402.size ≤ 9223372036854775807 then ((tripartiteref08_line.f k1 61 t403 (⟨#[]⟩ : ByteArray) a1).bind fun t408 => (if (((((x6_1 ++ ((rd_T109 l0 x7_1).f4)) ++ t406) ++ t400) ++ t407) ++ t402).size + t408.size ≤ 9223372036854775807 then (if ((((((x6_1 ++ ((rd_T109 l0 x7_1).f4)) ++ t406) ++ t400) ++ t407) ++ t402) ++ t408).size + bt404.1.size ≤ 9223372036854775807 then ((tripartiteref08_line.f k1 62 bt404.2 ((rd_T109 l0 x7_1).f2) a1).bind fun t409 => (if (((((((x6_1 ++ ((rd_T109 l0 x7_1).f4)) ++ t406) ++ t400) ++ t407) ++ t402) ++ t408) ++ bt404.1).size + t409.size ≤ 9223372036854775807 then (tripartiteref08_Print.l0 k1 l0 a1 ((((((((x6_1 ++ ((rd_T109 l0 x7_1).f4)) ++ t406) ++ t400) ++ t407) ++ t402) ++ t408) ++ bt404.1) ++ t409) (wrap64 (x7_1 + 1))) else (none))) else (none)) else (none))) else (none)) else (none))) else ((tripartiteref08_line.f k1 61 t401 (⟨#[]⟩ : ByteArray) a1).bind fun t410 => (if (((x6_1 ++ ((rd_T109 l0 x7_1).f4)) ++ t406) ++ t400).size + t410.size ≤ 9223372036854775807 then (if ((((x6_1 ++ ((rd_T109 l0 x7_1).f4)) ++ t406) ++ t400) ++ t410).size + bt404.1.size ≤ 9223372036854775807 then ((tripartiteref08_line.f k1 62 bt404.2 ((rd_T109 l0 x7_1).f2) a1).bind fun t411 => (if (((((x6_1 ++ ((rd_T109 l0 x7_1).f4)) ++ t406) ++ t400) ++ t410) ++ bt404.1).size + t411.size ≤ 9223372036854775807 then (tripartiteref08_Print.l0 k1 l0 a1 ((((((x6_1 ++ ((rd_T109 l0 x7_1).f4)) ++ t406) ++ t400) ++ t410) ++ bt404.1) ++ t411) (wrap64 (x7_1 + 1))) else (none))) else (none)) else (none)))) else (none)) else (none)))) = some (r1, r2) := H
          have A17 := Aside0.mk A170
          clear A170
          replace H := Option.bind_eq_some_iff.mp H
          obtain ⟨⟨t404, t405⟩, A180, H⟩ := H
          replace H : ((tripartiteref08_line.f k1 60 false ((rd_T109 l0 x7_1).f0) a1).bind fun t406 => (if (x6_1 ++ ((rd_T109 l0 x7_1).f4)).size + t406.size ≤ 9223372036854775807 then (if ((x6_1 ++ ((rd_T109 l0 x7_1).f4)) ++ t406).size + t400.size ≤ 9223372036854775807 then (if (rd_T109 l0 x7_1).f8 = true then ((tripartiteref08_line.f k1 124 t401 ((rd_T109 l0 x7_1).f1) a1).bind fun t407 => (if (((x6_1 ++ ((rd_T109 l0 x7_1).f4)) ++ t406) ++ t400).size + t407.size ≤ 9223372036854775807 then (if ((((x6_1 ++ ((rd_T109 l0 x7_1).f4)) ++ t406) ++ t400) ++ t407).size + t402.size ≤ 9223372036854775807 then ((tripartiteref08_line.f k1 61 t403 (⟨#[]⟩ : ByteArray) a1).bind fun t408 => (if (((((x6_1 ++ ((rd_T109 l0 x7_1).f4)) ++ t406) ++ t400) ++ t407) ++ t402).size + t408.size ≤ 9223372036854775807 then (if ((((((x6_1 ++ ((rd_T109 l0 x7_1).f4)) ++ t406) ++ t400) ++ t407) ++ t402) ++ t408).size + t404.size ≤ 9223372036854775807 then ((tripartiteref08_line.f k1 62 t405 ((rd_T109 l0 x7_1).f2) a1).bind fun t409 => (if (((((((x6_1 ++ ((rd_T109 l0 x7_1).f4)) ++ t406) ++ t400) ++ t407) ++ t402) ++ t408) ++ t404).size + t409.size ≤ 9223372036854775807 then (tripartiteref08_Print.l0 k1 l0 a1 ((((((((x6_1 ++ ((rd_T109 l0 x7_1).f4)) ++ t406) ++ t400) ++ t407) ++ t402) ++ t408) ++ t404) ++ t409) (wrap64 (x7_1 + 1))) else (none))) else (none)) else (none))) else (none)) else (none))) else ((tripartiteref08_line.f k1 61 t401 (⟨#[]⟩ : ByteArray) a1).bind fun t410 => (if (((x6_1 ++ ((rd_T109 l0 x7_1).f4)) ++ t406) ++ t400).size + t410.size ≤ 9223372036854775807 then (if ((((x6_1 ++ ((rd_T109 l0 x7_1).f4)) ++ t406) ++ t400) ++ t410).size + t404.size ≤ 9223372036854775807 then ((tripartiteref08_line.f k1 62 t405 ((rd_T109 l0 x7_1).f2) a1).bind fun t411 => (if (((((x6_1 ++ ((rd_T109 l0 x7_1).f4)) ++ t406) ++ t400) ++ t410) ++ t404).size + t411.size ≤ 9223372036854775807 then (tripartiteref08_Print.l0 k1 l0 a1 ((((((x6_1 ++ ((rd_T109 l0 x7_1).f4)) ++ t406) ++ t400) ++ t410) ++ t404) ++ t411) (wrap64 (x7_1 + 1))) else (none))) else (none)) else (none)))) else (none)) else (none))) = some (r1, r2) := H
          have A18 := Aside0.mk A180
          clear A180
          replace H := Option.bind_eq_some_iff.mp H
          obtain ⟨t406, A190, H⟩ := H
          replace H : (if (x6_1 ++ ((rd_T109 l0 x7_1).f4)).size + t406.size ≤ 9223372036854775807 then (if ((x6_1 ++ ((rd_T109 l0 x7_1).f4)) ++ t406).size + t400.size ≤ 9223372036854775807 then (if (rd_T109 l0 x7_1).f8 = true then ((tripartiteref08_line.f k1 124 t401 ((rd_T109 l0 x7_1).f1) a1).bind fun t407 => (if (((x6_1 ++ ((rd_T109 l0 x7_1).f4)) ++ t406) ++ t400).size + t407.size ≤ 9223372036854775807 then (if ((((x6_1 ++ ((rd_T109 l0 x7_1).f4)) ++ t406) ++ t400) ++ t407).size + t402.size ≤ 9223372036854775807 then ((tripartiteref08_line.f k1 61 t403 (⟨#[]⟩ : ByteArray) a1).bind fun t408 => (if (((((x6_1 ++ ((rd_T109 l0 x7_1).f4)) ++ t406) ++ t400) ++ t407) ++ t402).size + t408.size ≤ 9223372036854775807 then (if ((((((x6_1 ++ ((rd_T109 l0 x7_1).f4)) ++ t406) ++ t400) ++ t407) ++ t402) ++ t408).size + t404.size ≤ 9223372036854775807 then ((tripartiteref08_line.f k1 62 t405 ((rd_T109 l0 x7_1).f2) a1).bind fun t409 => (if (((((((x6_1 ++ ((rd_T109 l0 x7_1).f4)) ++ t406) ++ t400) ++ t407) ++ t402) ++ t408) ++ t404).size + t409.size ≤ 9223372036854775807 then (tripartiteref08_Print.l0 k1 l0 a1 ((((((((x6_1 ++ ((rd_T109 l0 x7_1).f4)) ++ t406) ++ t400) ++ t407) ++ t402) ++ t408) ++ t404) ++ t409) (wrap64 (x7_1 + 1))) else (none))) else (none)) else (none))) else (none)) else (none))) else ((tripartiteref08_line.f k1 61 t401 (⟨#[]⟩ : ByteArray) a1).bind fun t410 => (if (((x6_1 ++ ((rd_T109 l0 x7_1).f4)) ++ t406) ++ t400).size + t410.size ≤ 9223372036854775807 then (if ((((x6_1 ++ ((rd_T109 l0 x7_1).f4)) ++ t406) ++ t400) ++ t410).size + t404.size ≤ 9223372036854775807 then ((tripartiteref08_line.f k1 62 t405 ((rd_T109 l0 x7_1).f2) a1).bind fun t411 => (if (((((x6_1 ++ ((rd_T109 l0 x7_1).f4)) ++ t406) ++ t400) ++ t410) ++ t404).size + t411.size ≤ 9223372036854775807 then (tripartiteref08_Print.l0 k1 l0 a1 ((((((x6_1 ++ ((rd_T109 l0 x7_1).f4)) ++ t406) ++ t400) ++ t410) ++ t404) ++ t411) (wrap64 (x7_1 + 1))) else (none))) else (none)) else (none)))) else (none)) else (none)) = some (r1, r2) := H
          have A19 := Aside0.mk A190
          clear A190
          by_cases c20 : (x6_1 ++ ((rd_T109 l0 x7_1).f4)).size + t406.size ≤ 9223372036854775807
          ·rw [if_pos c20] at H
           have c20b0 := eq_true c20
           have c20b1 : decide ((x6_1 ++ ((rd_T109 l0 x7_1).f4)).size + t406.size ≤ 9223372036854775807) = true := decide_eq_true c20
           try have c20b2 : (9223372036854775807 < (x6_1 ++ ((rd_T109 l0 x7_1).f4)).size + t406.size) = False := eq_false (Nat.not_lt.2 c20)
           try have c20b3 : (9223372036854775807 < x6_1.size + ((rd_T109 l0 x7_1).f4).size + t406.size) = False := eq_false (Nat.not_lt.2 (Nat.le_trans (Nat.le_of_eq (by first | rfl | (simp only [ByteArray.size_append]; done) | (simp only [ByteArray.size_append]; rfl))) c20))
           by_cases c21 : ((x6_1 ++ ((rd_T109 l0 x7_1).f4)) ++ t406).size + t400.size ≤ 9223372036854775807
           ·rw [if_pos c21] at H
            have c21b0 := eq_true c21
            have c21b1 : decide (((x6_1 ++ ((rd_T109 l0 x7_1).f4)) ++ t406).size + t400.size ≤ 9223372036854775807) = true := decide_eq_true c21
            try have c21b2 : (9223372036854775807 < ((x6_1 ++ ((rd_T109 l0 x7_1).f4)) ++ t406).size + t400.size) = False := eq_false (Nat.not_lt.2 c21)
            try have c21b3 : (9223372036854775807 < x6_1.size + ((rd_T109 l0 x7_1).f4).size + t406.size + t400.size) = False := eq_false (Nat.not_lt.2 (Nat.le_trans (Nat.le_of_eq (by first | rfl | (simp only [ByteArray.size_append]; done) | (simp only [ByteArray.size_append]; rfl))) c21))
            obtain ⟨bq22, hbq22⟩ : ∃ b_ : Bool, b_ = ((rd_T109 l0 x7_1).f8) := ⟨_, rfl⟩
            replace H : (if bq22 = true then ((tripartiteref08_line.f k1 124 t401 ((rd_T109 l0 x7_1).f1) a1).bind fun t407 => (if (((x6_1 ++ ((rd_T109 l0 x7_1).f4)) ++ t406) ++ t400).size + t407.size ≤ 9223372036854775807 then (if ((((x6_1 ++ ((rd_T109 l0 x7_1).f4)) ++ t406) ++ t400) ++ t407).size + t402.size ≤ 9223372036854775807 then ((tripartiteref08_line.f k1 61 t403 (⟨#[]⟩ : ByteArray) a1).bind fun t408 => (if (((((x6_1 ++ ((rd_T109 l0 x7_1).f4)) ++ t406) ++ t400) ++ t407) ++ t402).size + t408.size ≤ 9223372036854775807 then (if ((((((x6_1 ++ ((rd_T109 l0 x7_1).f4)) ++ t406) ++ t400) ++ t407) ++ t402) ++ t408).size + t404.size ≤ 9223372036854775807 then ((tripartiteref08_line.f k1 62 t405 ((rd_T109 l0 x7_1).f2) a1).bind fun t409 => (if (((((((x6_1 ++ ((rd_T109 l0 x7_1).f4)) ++ t406) ++ t400) ++ t407) ++ t402) ++ t408) ++ t404).size + t409.size ≤ 9223372036854775807 then (tripartiteref08_Print.l0 k1 l0 a1 ((((((((x6_1 ++ ((rd_T109 l0 x7_1).f4)) ++ t406) ++ t400) ++ t407) ++ t402) ++ t408) ++ t404) ++ t409) (wrap64 (x7_1 + 1))) else (none))) else (none)) else (none))) else (none)) else (none))) else ((tripartiteref08_line.f k1 61 t401 (⟨#[]⟩ : ByteArray) a1).bind fun t410 => (if (((x6_1 ++ ((rd_T109 l0 x7_1).f4)) ++ t406) ++ t400).size + t410.size ≤ 9223372036854775807 then (if ((((x6_1 ++ ((rd_T109 l0 x7_1).f4)) ++ t406) ++ t400) ++ t410).size + t404.size ≤ 9223372036854775807 then ((tripartiteref08_line.f k1 62 t405 ((rd_T109 l0 x7_1).f2) a1).bind fun t411 => (if (((((x6_1 ++ ((rd_T109 l0 x7_1).f4)) ++ t406) ++ t400) ++ t410) ++ t404).size + t411.size ≤ 9223372036854775807 then (tripartiteref08_Print.l0 k1 l0 a1 ((((((x6_1 ++ ((rd_T109 l0 x7_1).f4)) ++ t406) ++ t400) ++ t410) ++ t404) ++ t411) (wrap64 (x7_1 + 1))) else (none))) else (none)) else (none)))) = some (r1, r2) := by rw [← hbq22] at H; exact H
            have Nbq22 := Aside0.mk hbq22
            clear hbq22
            by_cases c23 : bq22 = true
            ·subst c23
             have H1 : ((tripartiteref08_line.f k1 124 t401 ((rd_T109 l0 x7_1).f1) a1).bind fun t407 => (if (((x6_1 ++ ((rd_T109 l0 x7_1).f4)) ++ t406) ++ t400).size + t407.size ≤ 9223372036854775807 then (if ((((x6_1 ++ ((rd_T109 l0 x7_1).f4)) ++ t406) ++ t400) ++ t407).size + t402.size ≤ 9223372036854775807 then ((tripartiteref08_line.f k1 61 t403 (⟨#[]⟩ : ByteArray) a1).bind fun t408 => (if (((((x6_1 ++ ((rd_T109 l0 x7_1).f4)) ++ t406) ++ t400) ++ t407) ++ t402).size + t408.size ≤ 9223372036854775807 then (if ((((((x6_1 ++ ((rd_T109 l0 x7_1).f4)) ++ t406) ++ t400) ++ t407) ++ t402) ++ t408).size + t404.size ≤ 9223372036854775807 then ((tripartiteref08_line.f k1 62 t405 ((rd_T109 l0 x7_1).f2) a1).bind fun t409 => (if (((((((x6_1 ++ ((rd_T109 l0 x7_1).f4)) ++ t406) ++ t400) ++ t407) ++ t402) ++ t408) ++ t404).size + t409.size ≤ 9223372036854775807 then (tripartiteref08_Print.l0 k1 l0 a1 ((((((((x6_1 ++ ((rd_T109 l0 x7_1).f4)) ++ t406) ++ t400) ++ t407) ++ t402) ++ t408) ++ t404) ++ t409) (wrap64 (x7_1 + 1))) else (none))) else (none)) else (none))) else (none)) else (none))) = some (r1, r2) := by rw [if_pos rfl] at H; exact H
             clear H
             have H := H1
             clear H1
             replace H := Option.bind_eq_some_iff.mp H
             obtain ⟨t407, A240, H⟩ := H
             replace H : (if (((x6_1 ++ ((rd_T109 l0 x7_1).f4)) ++ t406) ++ t400).size + t407.size ≤ 9223372036854775807 then (if ((((x6_1 ++ ((rd_T109 l0 x7_1).f4)) ++ t406) ++ t400) ++ t407).size + t402.size ≤ 9223372036854775807 then ((tripartiteref08_line.f k1 61 t403 (⟨#[]⟩ : ByteArray) a1).bind fun t408 => (if (((((x6_1 ++ ((rd_T109 l0 x7_1).f4)) ++ t406) ++ t400) ++ t407) ++ t402).size + t408.size ≤ 9223372036854775807 then (if ((((((x6_1 ++ ((rd_T109 l0 x7_1).f4)) ++ t406) ++ t400) ++ t407) ++ t402) ++ t408).size + t404.size ≤ 9223372036854775807 then ((tripartiteref08_line.f k1 62 t405 ((rd_T109 l0 x7_1).f2) a1).bind fun t409 => (if (((((((x6_1 ++ ((rd_T109 l0 x7_1).f4)) ++ t406) ++ t400) ++ t407) ++ t402) ++ t408) ++ t404).size + t409.size ≤ 9223372036854775807 then (tripartiteref08_Print.l0 k1 l0 a1 ((((((((x6_1 ++ ((rd_T109 l0 x7_1).f4)) ++ t406) ++ t400) ++ t407) ++ t402) ++ t408) ++ t404) ++ t409) (wrap64 (x7_1 + 1))) else (none))) else (none)) else (none))) else (none)) else (none)) = some (r1, r2) := H
             have A24 := Aside0.mk A240
             clear A240
             by_cases c25 : (((x6_1 ++ ((rd_T109 l0 x7_1).f4)) ++ t406) ++ t400).size + t407.size ≤ 9223372036854775807
             ·rw [if_pos c25] at H
              have c25b0 := eq_true c25
              have c25b1 : decide ((((x6_1 ++ ((rd_T109 l0 x7_1).f4)) ++ t406) ++ t400).size + t407.size ≤ 9223372036854775807) = true := decide_eq_true c25
              try have c25b2 : (9223372036854775807 < (((x6_1 ++ ((rd_T109 l0 x7_1).f4)) ++ t406) ++ t400).size + t407.size) = False := eq_false (Nat.not_lt.2 c25)
              try have c25b3 : (9223372036854775807 < x6_1.size + ((rd_T109 l0 x7_1).f4).size + t406.size + t400.size + t407.size) = False := eq_false (Nat.not_lt.2 (Nat.le_trans (Nat.le_of_eq (by first | rfl | (simp only [ByteArray.size_append]; done) | (simp only [ByteArray.size_append]; rfl))) c25))
              by_cases c26 : ((((x6_1 ++ ((rd_T109 l0 x7_1).f4)) ++ t406) ++ t400) ++ t407).size + t402.size ≤ 9223372036854775807
              ·rw [if_pos c26] at H
               have c26b0 := eq_true c26
               have c26b1 : decide (((((x6_1 ++ ((rd_T109 l0 x7_1).f4)) ++ t406) ++ t400) ++ t407).size + t402.size ≤ 9223372036854775807) = true := decide_eq_true c26
               try have c26b2 : (9223372036854775807 < ((((x6_1 ++ ((rd_T109 l0 x7_1).f4)) ++ t406) ++ t400) ++ t407).size + t402.size) = False := eq_false (Nat.not_lt.2 c26)
               try have c26b3 : (9223372036854775807 < x6_1.size + ((rd_T109 l0 x7_1).f4).size + t406.size + t400.size + t407.size + t402.size) = False := eq_false (Nat.not_lt.2 (Nat.le_trans (Nat.le_of_eq (by first | rfl | (simp only [ByteArray.size_append]; done) | (simp only [ByteArray.size_append]; rfl))) c26))
               replace H := Option.bind_eq_some_iff.mp H
               obtain ⟨t408, A270, H⟩ := H
               replace H : (if (((((x6_1 ++ ((rd_T109 l0 x7_1).f4)) ++ t406) ++ t400) ++ t407) ++ t402).size + t408.size ≤ 9223372036854775807 then (if ((((((x6_1 ++ ((rd_T109 l0 x7_1).f4)) ++ t406) ++ t400) ++ t407) ++ t402) ++ t408).size + t404.size ≤ 9223372036854775807 then ((tripartiteref08_line.f k1 62 t405 ((rd_T109 l0 x7_1).f2) a1).bind fun t409 => (if (((((((x6_1 ++ ((rd_T109 l0 x7_1).f4)) ++ t406) ++ t400) ++ t407) ++ t402) ++ t408) ++ t404).size + t409.size ≤ 9223372036854775807 then (tripartiteref08_Print.l0 k1 l0 a1 ((((((((x6_1 ++ ((rd_T109 l0 x7_1).f4)) ++ t406) ++ t400) ++ t407) ++ t402) ++ t408) ++ t404) ++ t409) (wrap64 (x7_1 + 1))) else (none))) else (none)) else (none)) = some (r1, r2) := H
               have A27 := Aside0.mk A270
               clear A270
               by_cases c28 : (((((x6_1 ++ ((rd_T109 l0 x7_1).f4)) ++ t406) ++ t400) ++ t407) ++ t402).size + t408.size ≤ 9223372036854775807
               ·rw [if_pos c28] at H
                have c28b0 := eq_true c28
                have c28b1 : decide ((((((x6_1 ++ ((rd_T109 l0 x7_1).f4)) ++ t406) ++ t400) ++ t407) ++ t402).size + t408.size ≤ 9223372036854775807) = true := decide_eq_true c28
                try have c28b2 : (9223372036854775807 < (((((x6_1 ++ ((rd_T109 l0 x7_1).f4)) ++ t406) ++ t400) ++ t407) ++ t402).size + t408.size) = False := eq_false (Nat.not_lt.2 c28)
                try have c28b3 : (9223372036854775807 < x6_1.size + ((rd_T109 l0 x7_1).f4).size + t406.size + t400.size + t407.size + t402.size + t408.size) = False := eq_false (Nat.not_lt.2 (Nat.le_trans (Nat.le_of_eq (by first | rfl | (simp only [ByteArray.size_append]; done) | (simp only [ByteArray.size_append]; rfl))) c28))
                by_cases c29 : ((((((x6_1 ++ ((rd_T109 l0 x7_1).f4)) ++ t406) ++ t400) ++ t407) ++ t402) ++ t408).size + t404.size ≤ 9223372036854775807
                ·rw [if_pos c29] at H
                 have c29b0 := eq_true c29
                 have c29b1 : decide (((((((x6_1 ++ ((rd_T109 l0 x7_1).f4)) ++ t406) ++ t400) ++ t407) ++ t402) ++ t408).size + t404.size ≤ 9223372036854775807) = true := decide_eq_true c29
                 try have c29b2 : (9223372036854775807 < ((((((x6_1 ++ ((rd_T109 l0 x7_1).f4)) ++ t406) ++ t400) ++ t407) ++ t402) ++ t408).size + t404.size) = False := eq_false (Nat.not_lt.2 c29)
                 try have c29b3 : (9223372036854775807 < x6_1.size + ((rd_T109 l0 x7_1).f4).size + t406.size + t400.size + t407.size + t402.size + t408.size + t404.size) = False := eq_false (Nat.not_lt.2 (Nat.le_trans (Nat.le_of_eq (by first | rfl | (simp only [ByteArray.size_append]; done) | (simp only [ByteArray.size_append]; rfl))) c29))
                 replace H := Option.bind_eq_some_iff.mp H
                 obtain ⟨t409, A300, H⟩ := H
                 replace H : (if (((((((x6_1 ++ ((rd_T109 l0 x7_1).f4)) ++ t406) ++ t400) ++ t407) ++ t402) ++ t408) ++ t404).size + t409.size ≤ 9223372036854775807 then (tripartiteref08_Print.l0 k1 l0 a1 ((((((((x6_1 ++ ((rd_T109 l0 x7_1).f4)) ++ t406) ++ t400) ++ t407) ++ t402) ++ t408) ++ t404) ++ t409) (wrap64 (x7_1 + 1))) else (none)) = some (r1, r2) := H
                 have A30 := Aside0.mk A300
                 clear A300
                 by_cases c31 : (((((((x6_1 ++ ((rd_T109 l0 x7_1).f4)) ++ t406) ++ t400) ++ t407) ++ t402) ++ t408) ++ t404).size + t409.size ≤ 9223372036854775807
                 ·rw [if_pos c31] at H
                  have c31b0 := eq_true c31
                  have c31b1 : decide ((((((((x6_1 ++ ((rd_T109 l0 x7_1).f4)) ++ t406) ++ t400) ++ t407) ++ t402) ++ t408) ++ t404).size + t409.size ≤ 9223372036854775807) = true := decide_eq_true c31
                  try have c31b2 : (9223372036854775807 < (((((((x6_1 ++ ((rd_T109 l0 x7_1).f4)) ++ t406) ++ t400) ++ t407) ++ t402) ++ t408) ++ t404).size + t409.size) = False := eq_false (Nat.not_lt.2 c31)
                  try have c31b3 : (9223372036854775807 < x6_1.size + ((rd_T109 l0 x7_1).f4).size + t406.size + t400.size + t407.size + t402.size + t408.size + t404.size + t409.size) = False := eq_false (Nat.not_lt.2 (Nat.le_trans (Nat.le_of_eq (by first | rfl | (simp only [ByteArray.size_append]; done) | (simp only [ByteArray.size_append]; rfl))) c31))
                  have H' := Aside0.mk H
                  clear H
                  have p398 : 0 ≤ (x7_1 : Int) := of_decide_eq_true (by first | (with_reducible assumption) | assumption)
                  have q398 : x7_1 < (l0.length : Int) := of_decide_eq_true (by first | (with_reducible assumption) | assumption)
                  obtain ⟨ad398, e398, hx398_0, hx398_1, hx398_2, hx398_3, hx398_4, hx398_5, hx398_6, hx398_7, hx398_8⟩ := at_T109 HR0.out x7_1 p398 q398
                  (try rw [← Nbq14.out] at hx398_3)
                  (try rw [← Nbq22.out] at hx398_3)
                  (try rw [← Nbq14.out] at hx398_8)
                  (try rw [← Nbq22.out] at hx398_8)
                  cases e398
                  replace hx398_0 := (HB.out.cell (World.block_lt_of_cell? w _ hx398_0)).trans hx398_0
                  replace hx398_1 := (HB.out.cell (World.block_lt_of_cell? w _ hx398_1)).trans hx398_1
                  replace hx398_2 := (HB.out.cell (World.block_lt_of_cell? w _ hx398_2)).trans hx398_2
                  replace hx398_3 := (HB.out.cell (World.block_lt_of_cell? w _ hx398_3)).trans hx398_3
                  replace hx398_4 := (HB.out.cell (World.block_lt_of_cell? w _ hx398_4)).trans hx398_4
                  replace hx398_5 := (HB.out.cell (World.block_lt_of_cell? w _ hx398_5)).trans hx398_5
                  replace hx398_6 := (HB.out.cell (World.block_lt_of_cell? w _ hx398_6)).trans hx398_6
                  replace hx398_7 := (HB.out.cell (World.block_lt_of_cell? w _ hx398_7)).trans hx398_7
                  replace hx398_8 := (HB.out.cell (World.block_lt_of_cell? w _ hx398_8)).trans hx398_8
                  replace p398 := eq_true p398
                  replace q398 := eq_true q398
                  try go_wp2_with (first | ((with_reducible refine gate_dst (N := 8) rfl ?_); refine box_event ?hg (N := 8) ?hd (cs := #[.string (⟨#[]⟩ : ByteArray), .string (⟨#[]⟩ : ByteArray), .string (⟨#[]⟩ : ByteArray), .bool false, .string (⟨#[]⟩ : ByteArray), .string (⟨#[]⟩ : ByteArray), .string (⟨#[]⟩ : ByteArray), .string (⟨#[]⟩ : ByteArray), .bool false]) (t := 109) ?hr ?_; (case hd => rfl); (case hg => rfl); (case hr => first | (go_simp; done) | (go_simp; rfl)); intro gb399 hg w32 hbox hb; have n0_ := Aside0.mk (below_step (by repeat (first | (with_reducible first | exact HB.out | apply below_alloc | apply pw_below_drewN | apply below_drew1) | exact HB.out)) hb); have n1_ := Aside0.mk (hbox); have n2_ := Aside0.mk ((by rw [hg]; exact (below_size (by repeat (first | (with_reducible first | exact HB.out | apply below_alloc | apply pw_below_drewN | apply below_drew1) | exact HB.out))) : w.heap.size ≤ gb399)); have n3_ := Aside0.mk ((by rw [hg]; exact (below_size (by repeat (first | (with_reducible first | exact HB.out | apply below_alloc | apply pw_below_drewN | apply below_drew1) | exact HB.out))) : w.heap.size ≤ gb399)); clear HB; have HB := n0_; have BK399 := n1_; have GW399 := n2_; have GE399 := n3_; clear n0_ n1_ n2_ n3_; clear hb hbox hg; have hcz33_0 : w32.cell? ⟨gb399, 0, none⟩ = some (.string (⟨#[]⟩ : ByteArray)) := (blk_cell BK399.out 0).trans rfl; have hcz33_1 : w32.cell? ⟨gb399, 1, none⟩ = some (.string (⟨#[]⟩ : ByteArray)) := (blk_cell BK399.out 1).trans rfl; have hcz33_2 : w32.cell? ⟨gb399, 2, none⟩ = some (.string (⟨#[]⟩ : ByteArray)) := (blk_cell BK399.out 2).trans rfl; have hcz33_3 : w32.cell? ⟨gb399, 3, none⟩ = some (.bool false) := (blk_cell BK399.out 3).trans rfl; have hcz33_4 : w32.cell? ⟨gb399, 4, none⟩ = some (.string (⟨#[]⟩ : ByteArray)) := (blk_cell BK399.out 4).trans rfl; have hcz33_5 : w32.cell? ⟨gb399, 5, none⟩ = some (.string (⟨#[]⟩ : ByteArray)) := (blk_cell BK399.out 5).trans rfl; have hcz33_6 : w32.cell? ⟨gb399, 6, none⟩ = some (.string (⟨#[]⟩ : ByteArray)) := (blk_cell BK399.out 6).trans rfl; have hcz33_7 : w32.cell? ⟨gb399, 7, none⟩ = some (.string (⟨#[]⟩ : ByteArray)) := (blk_cell BK399.out 7).trans rfl; have hcz33_8 : w32.cell? ⟨gb399, 8, none⟩ = some (.bool false) := (blk_cell BK399.out 8).trans rfl; have hfz33_0 := blk_frozen BK399.out 0; have hfz33_1 := blk_frozen BK399.out 1; have hfz33_2 := blk_frozen BK399.out 2; have hfz33_3 := blk_frozen BK399.out 3; have hfz33_4 := blk_frozen BK399.out 4; have hfz33_5 := blk_frozen BK399.out 5; have hfz33_6 := blk_frozen BK399.out 6; have hfz33_7 := blk_frozen BK399.out 7; have hfz33_8 := blk_frozen BK399.out 8) | ((with_reducible refine gate_callee (f := 93) rfl ?_); refine goesL_ (some 45) rfl rfl Try.func93 (by kernel_rfl) rfl #[.string ((rd_T109 l0 x7_1).f5)] rfl (by (try simp only [List.map_toArray, List.map_cons, List.map_nil]); first | done | rfl | (simp only [List.length_drop, List.length_take]; rfl)) ?_; (with_reducible refine (tripartiteref08_side.calls ((rd_T109 l0 x7_1).f5) t400 t401 _ A16.out).mono ?_); rintro e w' ⟨rfl, ⟨nd, rfl⟩⟩; refine ⟨_, rfl, ?_⟩) | ((with_reducible refine gate_callee (f := 93) rfl ?_); refine goesL_ (some 51) rfl rfl Try.func93 (by kernel_rfl) rfl #[.string ((rd_T109 l0 x7_1).f6)] rfl (by (try simp only [List.map_toArray, List.map_cons, List.map_nil]); first | done | rfl | (simp only [List.length_drop, List.length_take]; rfl)) ?_; (with_reducible refine (tripartiteref08_side.calls ((rd_T109 l0 x7_1).f6) t402 t403 _ A17.out).mono ?_); rintro e w' ⟨rfl, ⟨nd, rfl⟩⟩; refine ⟨_, rfl, ?_⟩) | ((with_reducible refine gate_callee (f := 93) rfl ?_); refine goesL_ (some 57) rfl rfl Try.func93 (by kernel_rfl) rfl #[.string ((rd_T109 l0 x7_1).f7)] rfl (by (try simp only [List.map_toArray, List.map_cons, List.map_nil]); first | done | rfl | (simp only [List.length_drop, List.length_take]; rfl)) ?_; (with_reducible refine (tripartiteref08_side.calls ((rd_T109 l0 x7_1).f7) t404 t405 _ A18.out).mono ?_); rintro e w' ⟨rfl, ⟨nd, rfl⟩⟩; refine ⟨_, rfl, ?_⟩) | ((with_reducible refine gate_callee (f := 94) rfl ?_); refine goesL_ (some 65) rfl rfl Try.func94 (by kernel_rfl) rfl #[.agg #[.int .u8 60, .bool false, .string ((rd_T109 l0 x7_1).f0)], .int .i64 a1] rfl (by (try simp only [List.map_toArray, List.map_cons, List.map_nil]); first | done | rfl | (simp only [List.length_drop, List.length_take]; rfl)) ?_; (with_reducible refine (tripartiteref08_line.calls k1 60 false ((rd_T109 l0 x7_1).f0) a1 t406 _ A19.out).mono ?_); rintro e w34 ⟨rfl, hb⟩; refine ⟨_, rfl, ?_⟩; have n0_ := Aside0.mk (blk_below (g := gb399) (o := .cells #[.string ((rd_T109 l0 x7_1).f0), .string ((rd_T109 l0 x7_1).f1), .string ((rd_T109 l0 x7_1).f2), .bool true, .string ((rd_T109 l0 x7_1).f4), .string ((rd_T109 l0 x7_1).f5), .string ((rd_T109 l0 x7_1).f6), .string ((rd_T109 l0 x7_1).f7), .bool true] 109 (0, 0)) (by (with_reducible repeat (first | refine blk_drewN ?_ _ | refine blk_drew ?_ | refine blk_alloc ?_ _)); refine blk_put (cs := #[.string ((rd_T109 l0 x7_1).f0), .string ((rd_T109 l0 x7_1).f1), .string ((rd_T109 l0 x7_1).f2), .bool true, .string ((rd_T109 l0 x7_1).f4), .string ((rd_T109 l0 x7_1).f5), .string ((rd_T109 l0 x7_1).f6), .string ((rd_T109 l0 x7_1).f7), .bool false]) ?_ 8 _ rfl; (with_reducible repeat (first | refine blk_drewN ?_ _ | refine blk_drew ?_ | refine blk_alloc ?_ _)); refine blk_put (cs := #[.string ((rd_T109 l0 x7_1).f0), .string ((rd_T109 l0 x7_1).f1), .string ((rd_T109 l0 x7_1).f2), .bool true, .string ((rd_T109 l0 x7_1).f4), .string ((rd_T109 l0 x7_1).f5), .string ((rd_T109 l0 x7_1).f6), .string (⟨#[]⟩ : ByteArray), .bool false]) ?_ 7 _ rfl; (with_reducible repeat (first | refine blk_drewN ?_ _ | refine blk_drew ?_ | refine blk_alloc ?_ _)); refine blk_put (cs := #[.string ((rd_T109 l0 x7_1).f0), .string ((rd_T109 l0 x7_1).f1), .string ((rd_T109 l0 x7_1).f2), .bool true, .string ((rd_T109 l0 x7_1).f4), .string ((rd_T109 l0 x7_1).f5), .string (⟨#[]⟩ : ByteArray), .string (⟨#[]⟩ : ByteArray), .bool false]) ?_ 6 _ rfl; (with_reducible repeat (first | refine blk_drewN ?_ _ | refine blk_drew ?_ | refine blk_alloc ?_ _)); refine blk_put (cs := #[.string ((rd_T109 l0 x7_1).f0), .string ((rd_T109 l0 x7_1).f1), .string ((rd_T109 l0 x7_1).f2), .bool true, .string ((rd_T109 l0 x7_1).f4), .string (⟨#[]⟩ : ByteArray), .string (⟨#[]⟩ : ByteArray), .string (⟨#[]⟩ : ByteArray), .bool false]) ?_ 5 _ rfl; (with_reducible repeat (first | refine blk_drewN ?_ _ | refine blk_drew ?_ | refine blk_alloc ?_ _)); refine blk_put (cs := #[.string ((rd_T109 l0 x7_1).f0), .string ((rd_T109 l0 x7_1).f1), .string ((rd_T109 l0 x7_1).f2), .bool true, .string (⟨#[]⟩ : ByteArray), .string (⟨#[]⟩ : ByteArray), .string (⟨#[]⟩ : ByteArray), .string (⟨#[]⟩ : ByteArray), .bool false]) ?_ 4 _ rfl; (with_reducible repeat (first | refine blk_drewN ?_ _ | refine blk_drew ?_ | refine blk_alloc ?_ _)); refine blk_put (cs := #[.string ((rd_T109 l0 x7_1).f0), .string ((rd_T109 l0 x7_1).f1), .string ((rd_T109 l0 x7_1).f2), .bool false, .string (⟨#[]⟩ : ByteArray), .string (⟨#[]⟩ : ByteArray), .string (⟨#[]⟩ : ByteArray), .string (⟨#[]⟩ : ByteArray), .bool false]) ?_ 3 _ rfl; (with_reducible repeat (first | refine blk_drewN ?_ _ | refine blk_drew ?_ | refine blk_alloc ?_ _)); refine blk_put (cs := #[.string ((rd_T109 l0 x7_1).f0), .string ((rd_T109 l0 x7_1).f1), .string (⟨#[]⟩ : ByteArray), .bool false, .string (⟨#[]⟩ : ByteArray), .string (⟨#[]⟩ : ByteArray), .string (⟨#[]⟩ : ByteArray), .string (⟨#[]⟩ : ByteArray), .bool false]) ?_ 2 _ rfl; (with_reducible repeat (first | refine blk_drewN ?_ _ | refine blk_drew ?_ | refine blk_alloc ?_ _)); refine blk_put (cs := #[.string ((rd_T109 l0 x7_1).f0), .string (⟨#[]⟩ : ByteArray), .string (⟨#[]⟩ : ByteArray), .bool false, .string (⟨#[]⟩ : ByteArray), .string (⟨#[]⟩ : ByteArray), .string (⟨#[]⟩ : ByteArray), .string (⟨#[]⟩ : ByteArray), .bool false]) ?_ 1 _ rfl; (with_reducible repeat (first | refine blk_drewN ?_ _ | refine blk_drew ?_ | refine blk_alloc ?_ _)); refine blk_put (cs := #[.string (⟨#[]⟩ : ByteArray), .string (⟨#[]⟩ : ByteArray), .string (⟨#[]⟩ : ByteArray), .bool false, .string (⟨#[]⟩ : ByteArray), .string (⟨#[]⟩ : ByteArray), .string (⟨#[]⟩ : ByteArray), .string (⟨#[]⟩ : ByteArray), .bool false]) ?_ 0 _ rfl; (with_reducible repeat (first | refine blk_drewN ?_ _ | refine blk_drew ?_ | refine blk_alloc ?_ _)); exact BK399.out) hb); have n1_ := Aside0.mk (below_step (by repeat (first | (with_reducible first | exact HB.out | apply below_alloc | apply pw_below_drewN | apply below_drew1 | refine below_set ?_ GE399.out) | exact HB.out)) hb); clear BK399; clear HB; have BK399 := n0_; have HB := n1_; clear n0_ n1_; (try clear hb); (try clear hb2); (try clear hk); (try clear hi); have hcz35_0 : w34.cell? ⟨gb399, 0, none⟩ = some (.string ((rd_T109 l0 x7_1).f0)) := (blk_cell BK399.out 0).trans rfl; have hcz35_1 : w34.cell? ⟨gb399, 1, none⟩ = some (.string ((rd_T109 l0 x7_1).f1)) := (blk_cell BK399.out 1).trans rfl; have hcz35_2 : w34.cell? ⟨gb399, 2, none⟩ = some (.string ((rd_T109 l0 x7_1).f2)) := (blk_cell BK399.out 2).trans rfl; have hcz35_3 : w34.cell? ⟨gb399, 3, none⟩ = some (.bool true) := (blk_cell BK399.out 3).trans rfl; have hcz35_4 : w34.cell? ⟨gb399, 4, none⟩ = some (.string ((rd_T109 l0 x7_1).f4)) := (blk_cell BK399.out 4).trans rfl; have hcz35_5 : w34.cell? ⟨gb399, 5, none⟩ = some (.string ((rd_T109 l0 x7_1).f5)) := (blk_cell BK399.out 5).trans rfl; have hcz35_6 : w34.cell? ⟨gb399, 6, none⟩ = some (.string ((rd_T109 l0 x7_1).f6)) := (blk_cell BK399.out 6).trans rfl; have hcz35_7 : w34.cell? ⟨gb399, 7, none⟩ = some (.string ((rd_T109 l0 x7_1).f7)) := (blk_cell BK399.out 7).trans rfl; have hcz35_8 : w34.cell? ⟨gb399, 8, none⟩ = some (.bool true) := (blk_cell BK399.out 8).trans rfl; have hfz35_0 := blk_frozen BK399.out 0; have hfz35_1 := blk_frozen BK399.out 1; have hfz35_2 := blk_frozen BK399.out 2; have hfz35_3 := blk_frozen BK399.out 3; have hfz35_4 := blk_frozen BK399.out 4; have hfz35_5 := blk_frozen BK399.out 5; have hfz35_6 := blk_frozen BK399.out 6; have hfz35_7 := blk_frozen BK399.out 7; have hfz35_8 := blk_frozen BK399.out 8) | ((with_reducible refine gate_callee (f := 94) rfl ?_); refine goesL_ (some 77) rfl rfl Try.func94 (by kernel_rfl) rfl #[.agg #[.int .u8 124, .bool t401, .string ((rd_T109 l0 x7_1).f1)], .int .i64 a1] rfl (by (try simp only [List.map_toArray, List.map_cons, List.map_nil]); first | done | rfl | (simp only [List.length_drop, List.length_take]; rfl)) ?_; (with_reducible refine (tripartiteref08_line.calls k1 124 t401 ((rd_T109 l0 x7_1).f1) a1 t407 _ A24.out).mono ?_); rintro e w36 ⟨rfl, hb⟩; refine ⟨_, rfl, ?_⟩; have n0_ := Aside0.mk (blk_below (g := gb399) (o := .cells #[.string ((rd_T109 l0 x7_1).f0), .string ((rd_T109 l0 x7_1).f1), .string ((rd_T109 l0 x7_1).f2), .bool true, .string ((rd_T109 l0 x7_1).f4), .string ((rd_T109 l0 x7_1).f5), .string ((rd_T109 l0 x7_1).f6), .string ((rd_T109 l0 x7_1).f7), .bool true] 109 (0, 0)) (by (with_reducible repeat (first | refine blk_drewN ?_ _ | refine blk_drew ?_ | refine blk_alloc ?_ _)); exact BK399.out) hb); have n1_ := Aside0.mk (below_step (by repeat (first | (with_reducible first | exact HB.out | apply below_alloc | apply pw_below_drewN | apply below_drew1 | refine below_set ?_ GE399.out) | exact HB.out)) hb); clear BK399; clear HB; have BK399 := n0_; have HB := n1_; clear n0_ n1_; (try clear hb); (try clear hb2); (try clear hk); (try clear hi)))
                  have n0_ := Aside0.mk (blk_drew BK399.out)
                  have n1_ := Aside0.mk (below_drew1 HB.out)
                  clear BK399
                  clear HB
                  have BK399 := n0_
                  have HB := n1_
                  clear n0_ n1_
                  refine start_ (n := 16) (S := fun w' => w'.cell? ⟨gb399, 0, none⟩ = some (.string ((rd_T109 l0 x7_1).f0)) ∧ w'.cell? ⟨gb399, 1, none⟩ = some (.string ((rd_T109 l0 x7_1).f1)) ∧ w'.cell? ⟨gb399, 2, none⟩ = some (.string ((rd_T109 l0 x7_1).f2)) ∧ w'.cell? ⟨gb399, 3, none⟩ = some (.bool true) ∧ w'.cell? ⟨gb399, 4, none⟩ = some (.string ((rd_T109 l0 x7_1).f4)) ∧ w'.cell? ⟨gb399, 5, none⟩ = some (.string ((rd_T109 l0 x7_1).f5)) ∧ w'.cell? ⟨gb399, 6, none⟩ = some (.string ((rd_T109 l0 x7_1).f6)) ∧ w'.cell? ⟨gb399, 7, none⟩ = some (.string ((rd_T109 l0 x7_1).f7)) ∧ w'.cell? ⟨gb399, 8, none⟩ = some (.bool true)) (ds := []) #[false, false, false, false, false, false, false, false, false, false, false, false, false, false, false, false] (by kernel_rfl) rfl rfl ⟨(blk_cell BK399.out 0).trans rfl, (blk_cell BK399.out 1).trans rfl, (blk_cell BK399.out 2).trans rfl, (blk_cell BK399.out 3).trans rfl, (blk_cell BK399.out 4).trans rfl, (blk_cell BK399.out 5).trans rfl, (blk_cell BK399.out 6).trans rfl, (blk_cell BK399.out 7).trans rfl, (blk_cell BK399.out 8).trans rfl⟩ (fun hHeld => ?_); refine with_tabW tripartiteref08_Print.tab21 tripartiteref08_Print.bits21 (fun HT_ HW_ => ?_)
                  generalize w36.drew = w37 at BK399 HB hHeld ⊢
                  refine pure_ (i := 0) (N := some 82) (v := ?_) (a' := ?_) #[true, false, false, false, false, false, false, false, false, false, false, false, false, false, false, false] rfl rfl (any_of HT_.out (by kernel_rfl)) (fun _ _ _ h => h) (Or.inl ⟨by rfl, ?_⟩) ?_ ?_
                  rotate_left
                  ·intro w'
                   go_simp
                   with_reducible rfl
                  rotate_left
                  ·simp only [Act.put, List.setIfInBounds_toArray, List.set_cons_zero, List.set_cons_succ, i64_w, i32_w]
                   rfl
                  refine pure_ (i := 1) (N := some 83) (v := ?_) (a' := ?_) #[true, true, false, false, false, false, false, false, false, false, false, false, false, false, false, false] rfl rfl (any_of HT_.out (by kernel_rfl)) (fun _ _ _ h => h) (Or.inl ⟨by rfl, ?_⟩) ?_ ?_
                  rotate_left
                  ·intro w'
                   go_simp
                   with_reducible rfl
                  rotate_left
                  ·simp only [Act.put, List.setIfInBounds_toArray, List.set_cons_zero, List.set_cons_succ, i64_w, i32_w]
                   rfl
                  refine pure_ (i := 2) (N := some 84) (v := ?_) (a' := ?_) #[true, true, true, false, false, false, false, false, false, false, false, false, false, false, false, false] rfl rfl (any_of HT_.out (by kernel_rfl)) (fun _ _ _ h => h) (Or.inl ⟨by rfl, ?_⟩) ?_ ?_
                  rotate_left
                  ·intro w'
                   go_simp
                   with_reducible rfl
                  rotate_left
                  ·simp only [Act.put, List.setIfInBounds_toArray, List.set_cons_zero, List.set_cons_succ, i64_w, i32_w]
                   rfl
                  refine pure_ (i := 3) (N := some 85) (v := ?_) (a' := ?_) #[true, true, true, true, false, false, false, false, false, false, false, false, false, false, false, false] rfl rfl (any_of HT_.out (by kernel_rfl)) (fun _ _ _ h => h) (Or.inl ⟨by rfl, ?_⟩) ?_ ?_
                  rotate_left
                  ·intro w'
                   go_simp
                   with_reducible rfl
                  rotate_left
                  ·simp only [Act.put, List.setIfInBounds_toArray, List.set_cons_zero, List.set_cons_succ, i64_w, i32_w]
                   rfl
                  refine pure_ (i := 6) (N := some 88) (v := ?_) (a' := ?_) #[true, true, true, true, false, false, true, false, false, false, false, false, false, false, false, false] rfl rfl (any_of HT_.out (by kernel_rfl)) (fun _ _ _ h => h) (Or.inl ⟨by rfl, ?_⟩) ?_ ?_
                  rotate_left
                  ·intro w'
                   go_simp
                   with_reducible rfl
                  rotate_left
                  ·simp only [Act.put, List.setIfInBounds_toArray, List.set_cons_zero, List.set_cons_succ, i64_w, i32_w]
                   rfl
                  refine pure_ (i := 8) (N := some 90) (v := ?_) (a' := ?_) #[true, true, true, true, false, false, true, false, true, false, false, false, false, false, false, false] rfl rfl (any_of HT_.out (by kernel_rfl)) (fun _ _ _ h => h) (Or.inl ⟨by rfl, ?_⟩) ?_ ?_
                  rotate_left
                  ·intro w'
                   go_simp
                   with_reducible rfl
                  rotate_left
                  ·simp only [Act.put, List.setIfInBounds_toArray, List.set_cons_zero, List.set_cons_succ, i64_w, i32_w]
                   rfl
                  refine pure_ (i := 9) (N := some 91) (v := ?_) (a' := ?_) #[true, true, true, true, false, false, true, false, true, true, false, false, false, false, false, false] rfl rfl (any_of HT_.out (by kernel_rfl)) (fun _ _ _ h => h) (Or.inl ⟨by rfl, ?_⟩) ?_ ?_
                  rotate_left
                  ·intro w'
                   go_simp
                   with_reducible rfl
                  rotate_left
                  ·simp only [Act.put, List.setIfInBounds_toArray, List.set_cons_zero, List.set_cons_succ, i64_w, i32_w]
                   rfl
                  refine pure_ (i := 12) (N := some 94) (v := ?_) (a' := ?_) #[true, true, true, true, false, false, true, false, true, true, false, false, true, false, false, false] rfl rfl (any_of HT_.out (by kernel_rfl)) (fun _ _ _ h => h) (Or.inl ⟨by rfl, ?_⟩) ?_ ?_
                  rotate_left
                  ·intro w'
                   go_simp
                   with_reducible rfl
                  rotate_left
                  ·simp only [Act.put, List.setIfInBounds_toArray, List.set_cons_zero, List.set_cons_succ, i64_w, i32_w]
                   rfl
                  refine take_ (i := 10) (N := some 92) (v := ?_) (a' := ?_) #[true, true, true, true, false, false, true, false, true, true, true, false, true, false, false, false] rfl rfl (take_ofW HT_.out HW_.out (by kernel_rfl)) (fun _ _ _ h => h) (Or.inl ⟨by rfl, ?_⟩) hHeld ?_ ?_
                  rotate_left
                  ·rintro w' ⟨s0, s1, s2, s3, s4, s5, s6, s7, s8⟩
                   go_simp
                   with_reducible rfl
                  rotate_left
                  ·simp only [Act.put, List.setIfInBounds_toArray, List.set_cons_zero, List.set_cons_succ, i64_w, i32_w]
                   rfl
                  refine pure_ (i := 11) (N := some 93) (v := ?_) (a' := ?_) #[true, true, true, true, false, false, true, false, true, true, true, true, true, false, false, false] rfl rfl (any_of HT_.out (by kernel_rfl)) (fun _ _ _ h => h) (Or.inl ⟨by rfl, ?_⟩) ?_ ?_
                  rotate_left
                  ·intro w'
                   go_simp
                   with_reducible rfl
                  rotate_left
                  ·simp only [Act.put, List.setIfInBounds_toArray, List.set_cons_zero, List.set_cons_succ, i64_w, i32_w]
                   rfl
                  refine one_ (i := 4) (N := some 86) #[true, true, true, true, true, false, true, false, true, true, true, true, true, false, false, false] rfl rfl (one_of HT_.out (by kernel_rfl)) (by decide) (fun K hK => ?_)
                  refine goes_ Try.func94 (by kernel_rfl) rfl #[.agg #[.int .u8 61, .bool t403, .string (⟨#[]⟩ : ByteArray)], .int .i64 a1] (by rfl) rfl rfl (by (try simp only [List.map_toArray, List.map_cons, List.map_nil]); first | done | rfl | (simp only [List.length_drop, List.length_take]; rfl)) ?_
                  with_reducible refine (tripartiteref08_line.calls k1 61 t403 (⟨#[]⟩ : ByteArray) a1 t408 _ A27.out).mono ?_
                  rintro e w38 ⟨rfl, hb⟩
                  refine ⟨_, rfl, ?_⟩
                  have n0_ := Aside0.mk (blk_below (g := gb399) (o := .cells #[.string ((rd_T109 l0 x7_1).f0), .string ((rd_T109 l0 x7_1).f1), .string ((rd_T109 l0 x7_1).f2), .bool true, .string ((rd_T109 l0 x7_1).f4), .string ((rd_T109 l0 x7_1).f5), .string ((rd_T109 l0 x7_1).f6), .string ((rd_T109 l0 x7_1).f7), .bool true] 109 (0, 0)) (by (with_reducible repeat (first | refine blk_drewN ?_ _ | refine blk_drew ?_ | refine blk_alloc ?_ _)); exact BK399.out) hb)
                  have n1_ := Aside0.mk (below_step (by repeat (first | (with_reducible first | exact HB.out | apply below_alloc | apply pw_below_drewN | apply below_drew1 | refine below_set ?_ GE399.out) | exact HB.out)) hb)
                  clear BK399
                  clear HB
                  have BK399 := n0_
                  have HB := n1_
                  clear n0_ n1_
                  (try clear hb)
                  (try clear hb2)
                  (try clear hk)
                  (try clear hi)
                  refine hK.out _ _ ⟨(blk_cell BK399.out 0).trans rfl, (blk_cell BK399.out 1).trans rfl, (blk_cell BK399.out 2).trans rfl, (blk_cell BK399.out 3).trans rfl, (blk_cell BK399.out 4).trans rfl, (blk_cell BK399.out 5).trans rfl, (blk_cell BK399.out 6).trans rfl, (blk_cell BK399.out 7).trans rfl, (blk_cell BK399.out 8).trans rfl⟩ (fun hHeld => ?_)
                  clear hK K
                  refine norm_ (a' := ?_) ?_ ?_
                  rotate_left
                  ·show Act.put _ (some 86) _ = _
                   simp only [Act.put, List.setIfInBounds_toArray, List.set_cons_zero, List.set_cons_succ, i64_w, i32_w]
                   rfl
                  refine pure_ (i := 5) (N := some 87) (v := ?_) (a' := ?_) #[true, true, true, true, true, true, true, false, true, true, true, true, true, false, false, false] rfl rfl (any_of HT_.out (by kernel_rfl)) (fun _ _ _ h => h) (Or.inl ⟨by rfl, ?_⟩) ?_ ?_
                  rotate_left
                  ·intro w'
                   go_simp
                   with_reducible rfl
                  rotate_left
                  ·simp only [Act.put, List.setIfInBounds_toArray, List.set_cons_zero, List.set_cons_succ, i64_w, i32_w]
                   rfl
                  refine pure_ (i := 7) (N := some 89) (v := ?_) (a' := ?_) #[true, true, true, true, true, true, true, true, true, true, true, true, true, false, false, false] rfl rfl (any_of HT_.out (by kernel_rfl)) (fun _ _ _ h => h) (Or.inl ⟨by rfl, ?_⟩) ?_ ?_
                  rotate_left
                  ·intro w'
                   go_simp
                   with_reducible rfl
                  rotate_left
                  ·simp only [Act.put, List.setIfInBounds_toArray, List.set_cons_zero, List.set_cons_succ, i64_w, i32_w]
                   rfl
                  refine one_ (i := 13) (N := some 95) #[true, true, true, true, true, true, true, true, true, true, true, true, true, true, false, false] rfl rfl (one_of HT_.out (by kernel_rfl)) (by decide) (fun K hK => ?_)
                  refine goes_ Try.func94 (by kernel_rfl) rfl #[.agg #[.int .u8 62, .bool t405, .string ((rd_T109 l0 x7_1).f2)], .int .i64 a1] (by rfl) rfl rfl (by (try simp only [List.map_toArray, List.map_cons, List.map_nil]); first | done | rfl | (simp only [List.length_drop, List.length_take]; rfl)) ?_
                  with_reducible refine (tripartiteref08_line.calls k1 62 t405 ((rd_T109 l0 x7_1).f2) a1 t409 _ A30.out).mono ?_
                  rintro e w39 ⟨rfl, hb⟩
                  refine ⟨_, rfl, ?_⟩
                  have n0_ := Aside0.mk (blk_below (g := gb399) (o := .cells #[.string ((rd_T109 l0 x7_1).f0), .string ((rd_T109 l0 x7_1).f1), .string ((rd_T109 l0 x7_1).f2), .bool true, .string ((rd_T109 l0 x7_1).f4), .string ((rd_T109 l0 x7_1).f5), .string ((rd_T109 l0 x7_1).f6), .string ((rd_T109 l0 x7_1).f7), .bool true] 109 (0, 0)) (by (with_reducible repeat (first | refine blk_drewN ?_ _ | refine blk_drew ?_ | refine blk_alloc ?_ _)); exact BK399.out) hb)
                  have n1_ := Aside0.mk (below_step (by repeat (first | (with_reducible first | exact HB.out | apply below_alloc | apply pw_below_drewN | apply below_drew1 | refine below_set ?_ GE399.out) | exact HB.out)) hb)
                  clear BK399
                  clear HB
                  have BK399 := n0_
                  have HB := n1_
                  clear n0_ n1_
                  (try clear hb)
                  (try clear hb2)
                  (try clear hk)
                  (try clear hi)
                  refine hK.out _ _ ⟨(blk_cell BK399.out 0).trans rfl, (blk_cell BK399.out 1).trans rfl, (blk_cell BK399.out 2).trans rfl, (blk_cell BK399.out 3).trans rfl, (blk_cell BK399.out 4).trans rfl, (blk_cell BK399.out 5).trans rfl, (blk_cell BK399.out 6).trans rfl, (blk_cell BK399.out 7).trans rfl, (blk_cell BK399.out 8).trans rfl⟩ (fun hHeld => ?_)
                  clear hK K
                  refine norm_ (a' := ?_) ?_ ?_
                  rotate_left
                  ·show Act.put _ (some 95) _ = _
                   simp only [Act.put, List.setIfInBounds_toArray, List.set_cons_zero, List.set_cons_succ, i64_w, i32_w]
                   rfl
                  refine pure_ (i := 14) (N := some 96) (v := ?_) (a' := ?_) #[true, true, true, true, true, true, true, true, true, true, true, true, true, true, true, false] rfl rfl (any_of HT_.out (by kernel_rfl)) (fun _ _ _ h => h) (Or.inl ⟨by rfl, ?_⟩) ?_ ?_
                  rotate_left
                  ·intro w'
                   go_simp
                   with_reducible rfl
                  rotate_left
                  ·simp only [Act.put, List.setIfInBounds_toArray, List.set_cons_zero, List.set_cons_succ, i64_w, i32_w]
                   rfl
                  refine pure_ (i := 15) (N := some 6) (v := ?_) (a' := ?_) #[true, true, true, true, true, true, true, true, true, true, true, true, true, true, true, true] rfl rfl (any_of HT_.out (by kernel_rfl)) (fun _ _ _ h => h) (Or.inl ⟨by rfl, ?_⟩) ?_ ?_
                  rotate_left
                  ·intro w'
                   go_simp
                   with_reducible rfl
                  rotate_left
                  ·simp only [Act.put, List.setIfInBounds_toArray, List.set_cons_zero, List.set_cons_succ, i64_w, i32_w]
                   rfl
                  refine done_ (done_of HT_.out (by kernel_rfl)) ?_
                  try go_wp2
                  go_roundg k1
                  case measure => have := HK1.out; omega
                  case rel => exact ⟨((((((((x6_1 ++ ((rd_T109 l0 x7_1).f4)) ++ t406) ++ t400) ++ t407) ++ t402) ++ t408) ++ t404) ++ t409), (wrap64 (x7_1 + 1)), (by first | rfl | (simp; done) | (simp [*]; done)), (by first | rfl | (simp; done) | (simp [*]; done)), H', ⟨by have := HK1.out; omega⟩, ⟨by repeat (first | (with_reducible first | exact HB.out | apply below_alloc | apply pw_below_drewN | apply below_drew1 | refine below_set ?_ GE399.out) | exact HB.out)⟩⟩
                 ·rw [if_neg c31] at H
                  exact absurd H (by simp)
                ·rw [if_neg c29] at H
                 exact absurd H (by simp)
               ·rw [if_neg c28] at H
                exact absurd H (by simp)
              ·rw [if_neg c26] at H
               exact absurd H (by simp)
             ·rw [if_neg c25] at H
              exact absurd H (by simp)
            ·replace c23 := Bool.eq_false_iff.mpr c23
             subst c23
             have H1 : ((tripartiteref08_line.f k1 61 t401 (⟨#[]⟩ : ByteArray) a1).bind fun t410 => (if (((x6_1 ++ ((rd_T109 l0 x7_1).f4)) ++ t406) ++ t400).size + t410.size ≤ 9223372036854775807 then (if ((((x6_1 ++ ((rd_T109 l0 x7_1).f4)) ++ t406) ++ t400) ++ t410).size + t404.size ≤ 9223372036854775807 then ((tripartiteref08_line.f k1 62 t405 ((rd_T109 l0 x7_1).f2) a1).bind fun t411 => (if (((((x6_1 ++ ((rd_T109 l0 x7_1).f4)) ++ t406) ++ t400) ++ t410) ++ t404).size + t411.size ≤ 9223372036854775807 then (tripartiteref08_Print.l0 k1 l0 a1 ((((((x6_1 ++ ((rd_T109 l0 x7_1).f4)) ++ t406) ++ t400) ++ t410) ++ t404) ++ t411) (wrap64 (x7_1 + 1))) else (none))) else (none)) else (none))) = some (r1, r2) := by rw [if_neg (show ¬ (false = true) by decide)] at H; exact H
             clear H
             have H := H1
             clear H1
             replace H := Option.bind_eq_some_iff.mp H
             obtain ⟨t410, A400, H⟩ := H
             replace H : (if (((x6_1 ++ ((rd_T109 l0 x7_1).f4)) ++ t406) ++ t400).size + t410.size ≤ 9223372036854775807 then (if ((((x6_1 ++ ((rd_T109 l0 x7_1).f4)) ++ t406) ++ t400) ++ t410).size + t404.size ≤ 9223372036854775807 then ((tripartiteref08_line.f k1 62 t405 ((rd_T109 l0 x7_1).f2) a1).bind fun t411 => (if (((((x6_1 ++ ((rd_T109 l0 x7_1).f4)) ++ t406) ++ t400) ++ t410) ++ t404).size + t411.size ≤ 9223372036854775807 then (tripartiteref08_Print.l0 k1 l0 a1 ((((((x6_1 ++ ((rd_T109 l0 x7_1).f4)) ++ t406) ++ t400) ++ t410) ++ t404) ++ t411) (wrap64 (x7_1 + 1))) else (none))) else (none)) else (none)) = some (r1, r2) := H
             have A40 := Aside0.mk A400
             clear A400
             by_cases c41 : (((x6_1 ++ ((rd_T109 l0 x7_1).f4)) ++ t406) ++ t400).size + t410.size ≤ 9223372036854775807
             ·rw [if_pos c41] at H
              have c41b0 := eq_true c41
              have c41b1 : decide ((((x6_1 ++ ((rd_T109 l0 x7_1).f4)) ++ t406) ++ t400).size + t410.size ≤ 9223372036854775807) = true := decide_eq_true c41
              try have c41b2 : (9223372036854775807 < (((x6_1 ++ ((rd_T109 l0 x7_1).f4)) ++ t406) ++ t400).size + t410.size) = False := eq_false (Nat.not_lt.2 c41)
              try have c41b3 : (9223372036854775807 < x6_1.size + ((rd_T109 l0 x7_1).f4).size + t406.size + t400.size + t410.size) = False := eq_false (Nat.not_lt.2 (Nat.le_trans (Nat.le_of_eq (by first | rfl | (simp only [ByteArray.size_append]; done) | (simp only [ByteArray.size_append]; rfl))) c41))
              by_cases c42 : ((((x6_1 ++ ((rd_T109 l0 x7_1).f4)) ++ t406) ++ t400) ++ t410).size + t404.size ≤ 9223372036854775807
              ·rw [if_pos c42] at H
               have c42b0 := eq_true c42
               have c42b1 : decide (((((x6_1 ++ ((rd_T109 l0 x7_1).f4)) ++ t406) ++ t400) ++ t410).size + t404.size ≤ 9223372036854775807) = true := decide_eq_true c42
               try have c42b2 : (9223372036854775807 < ((((x6_1 ++ ((rd_T109 l0 x7_1).f4)) ++ t406) ++ t400) ++ t410).size + t404.size) = False := eq_false (Nat.not_lt.2 c42)
               try have c42b3 : (9223372036854775807 < x6_1.size + ((rd_T109 l0 x7_1).f4).size + t406.size + t400.size + t410.size + t404.size) = False := eq_false (Nat.not_lt.2 (Nat.le_trans (Nat.le_of_eq (by first | rfl | (simp only [ByteArray.size_append]; done) | (simp only [ByteArray.size_append]; rfl))) c42))
               replace H := Option.bind_eq_some_iff.mp H
               obtain ⟨t411, A430, H⟩ := H
               replace H : (if (((((x6_1 ++ ((rd_T109 l0 x7_1).f4)) ++ t406) ++ t400) ++ t410) ++ t404).size + t411.size ≤ 9223372036854775807 then (tripartiteref08_Print.l0 k1 l0 a1 ((((((x6_1 ++ ((rd_T109 l0 x7_1).f4)) ++ t406) ++ t400) ++ t410) ++ t404) ++ t411) (wrap64 (x7_1 + 1))) else (none)) = some (r1, r2) := H
               have A43 := Aside0.mk A430
               clear A430
               by_cases c44 : (((((x6_1 ++ ((rd_T109 l0 x7_1).f4)) ++ t406) ++ t400) ++ t410) ++ t404).size + t411.size ≤ 9223372036854775807
               ·rw [if_pos c44] at H
                have c44b0 := eq_true c44
                have c44b1 : decide ((((((x6_1 ++ ((rd_T109 l0 x7_1).f4)) ++ t406) ++ t400) ++ t410) ++ t404).size + t411.size ≤ 9223372036854775807) = true := decide_eq_true c44
                try have c44b2 : (9223372036854775807 < (((((x6_1 ++ ((rd_T109 l0 x7_1).f4)) ++ t406) ++ t400) ++ t410) ++ t404).size + t411.size) = False := eq_false (Nat.not_lt.2 c44)
                try have c44b3 : (9223372036854775807 < x6_1.size + ((rd_T109 l0 x7_1).f4).size + t406.size + t400.size + t410.size + t404.size + t411.size) = False := eq_false (Nat.not_lt.2 (Nat.le_trans (Nat.le_of_eq (by first | rfl | (simp only [ByteArray.size_append]; done) | (simp only [ByteArray.size_append]; rfl))) c44))
                have H' := Aside0.mk H
                clear H
                have p398 : 0 ≤ (x7_1 : Int) := of_decide_eq_true (by first | (with_reducible assumption) | assumption)
                have q398 : x7_1 < (l0.length : Int) := of_decide_eq_true (by first | (with_reducible assumption) | assumption)
                obtain ⟨ad398, e398, hx398_0, hx398_1, hx398_2, hx398_3, hx398_4, hx398_5, hx398_6, hx398_7, hx398_8⟩ := at_T109 HR0.out x7_1 p398 q398
                (try rw [← Nbq14.out] at hx398_3)
                (try rw [← Nbq22.out] at hx398_3)
                (try rw [← Nbq14.out] at hx398_8)
                (try rw [← Nbq22.out] at hx398_8)
                cases e398
                replace hx398_0 := (HB.out.cell (World.block_lt_of_cell? w _ hx398_0)).trans hx398_0
                replace hx398_1 := (HB.out.cell (World.block_lt_of_cell? w _ hx398_1)).trans hx398_1
                replace hx398_2 := (HB.out.cell (World.block_lt_of_cell? w _ hx398_2)).trans hx398_2
                replace hx398_3 := (HB.out.cell (World.block_lt_of_cell? w _ hx398_3)).trans hx398_3
                replace hx398_4 := (HB.out.cell (World.block_lt_of_cell? w _ hx398_4)).trans hx398_4
                replace hx398_5 := (HB.out.cell (World.block_lt_of_cell? w _ hx398_5)).trans hx398_5
                replace hx398_6 := (HB.out.cell (World.block_lt_of_cell? w _ hx398_6)).trans hx398_6
                replace hx398_7 := (HB.out.cell (World.block_lt_of_cell? w _ hx398_7)).trans hx398_7
                replace hx398_8 := (HB.out.cell (World.block_lt_of_cell? w _ hx398_8)).trans hx398_8
                replace p398 := eq_true p398
                replace q398 := eq_true q398
                try go_wp2_with (first | ((with_reducible refine gate_dst (N := 8) rfl ?_); refine box_event ?hg (N := 8) ?hd (cs := #[.string (⟨#[]⟩ : ByteArray), .string (⟨#[]⟩ : ByteArray), .string (⟨#[]⟩ : ByteArray), .bool false, .string (⟨#[]⟩ : ByteArray), .string (⟨#[]⟩ : ByteArray), .string (⟨#[]⟩ : ByteArray), .string (⟨#[]⟩ : ByteArray), .bool false]) (t := 109) ?hr ?_; (case hd => rfl); (case hg => rfl); (case hr => first | (go_simp; done) | (go_simp; rfl)); intro gb399 hg w45 hbox hb; have n0_ := Aside0.mk (below_step (by repeat (first | (with_reducible first | exact HB.out | apply below_alloc | apply pw_below_drewN | apply below_drew1) | exact HB.out)) hb); have n1_ := Aside0.mk (hbox); have n2_ := Aside0.mk ((by rw [hg]; exact (below_size (by repeat (first | (with_reducible first | exact HB.out | apply below_alloc | apply pw_below_drewN | apply below_drew1) | exact HB.out))) : w.heap.size ≤ gb399)); have n3_ := Aside0.mk ((by rw [hg]; exact (below_size (by repeat (first | (with_reducible first | exact HB.out | apply below_alloc | apply pw_below_drewN | apply below_drew1) | exact HB.out))) : w.heap.size ≤ gb399)); clear HB; have HB := n0_; have BK399 := n1_; have GW399 := n2_; have GE399 := n3_; clear n0_ n1_ n2_ n3_; clear hb hbox hg; have hcz46_0 : w45.cell? ⟨gb399, 0, none⟩ = some (.string (⟨#[]⟩ : ByteArray)) := (blk_cell BK399.out 0).trans rfl; have hcz46_1 : w45.cell? ⟨gb399, 1, none⟩ = some (.string (⟨#[]⟩ : ByteArray)) := (blk_cell BK399.out 1).trans rfl; have hcz46_2 : w45.cell? ⟨gb399, 2, none⟩ = some (.string (⟨#[]⟩ : ByteArray)) := (blk_cell BK399.out 2).trans rfl; have hcz46_3 : w45.cell? ⟨gb399, 3, none⟩ = some (.bool false) := (blk_cell BK399.out 3).trans rfl; have hcz46_4 : w45.cell? ⟨gb399, 4, none⟩ = some (.string (⟨#[]⟩ : ByteArray)) := (blk_cell BK399.out 4).trans rfl; have hcz46_5 : w45.cell? ⟨gb399, 5, none⟩ = some (.string (⟨#[]⟩ : ByteArray)) := (blk_cell BK399.out 5).trans rfl; have hcz46_6 : w45.cell? ⟨gb399, 6, none⟩ = some (.string (⟨#[]⟩ : ByteArray)) := (blk_cell BK399.out 6).trans rfl; have hcz46_7 : w45.cell? ⟨gb399, 7, none⟩ = some (.string (⟨#[]⟩ : ByteArray)) := (blk_cell BK399.out 7).trans rfl; have hcz46_8 : w45.cell? ⟨gb399, 8, none⟩ = some (.bool false) := (blk_cell BK399.out 8).trans rfl; have hfz46_0 := blk_frozen BK399.out 0; have hfz46_1 := blk_frozen BK399.out 1; have hfz46_2 := blk_frozen BK399.out 2; have hfz46_3 := blk_frozen BK399.out 3; have hfz46_4 := blk_frozen BK399.out 4; have hfz46_5 := blk_frozen BK399.out 5; have hfz46_6 := blk_frozen BK399.out 6; have hfz46_7 := blk_frozen BK399.out 7; have hfz46_8 := blk_frozen BK399.out 8) | ((with_reducible refine gate_callee (f := 93) rfl ?_); refine goesL_ (some 45) rfl rfl Try.func93 (by kernel_rfl) rfl #[.string ((rd_T109 l0 x7_1).f5)] rfl (by (try simp only [List.map_toArray, List.map_cons, List.map_nil]); first | done | rfl | (simp only [List.length_drop, List.length_take]; rfl)) ?_; (with_reducible refine (tripartiteref08_side.calls ((rd_T109 l0 x7_1).f5) t400 t401 _ A16.out).mono ?_); rintro e w' ⟨rfl, ⟨nd, rfl⟩⟩; refine ⟨_, rfl, ?_⟩) | ((with_reducible refine gate_callee (f := 93) rfl ?_); refine goesL_ (some 51) rfl rfl Try.func93 (by kernel_rfl) rfl #[.string ((rd_T109 l0 x7_1).f6)] rfl (by (try simp only [List.map_toArray, List.map_cons, List.map_nil]); first | done | rfl | (simp only [List.length_drop, List.length_take]; rfl)) ?_; (with_reducible refine (tripartiteref08_side.calls ((rd_T109 l0 x7_1).f6) t402 t403 _ A17.out).mono ?_); rintro e w' ⟨rfl, ⟨nd, rfl⟩⟩; refine ⟨_, rfl, ?_⟩) | ((with_reducible refine gate_callee (f := 93) rfl ?_); refine goesL_ (some 57) rfl rfl Try.func93 (by kernel_rfl) rfl #[.string ((rd_T109 l0 x7_1).f7)] rfl (by (try simp only [List.map_toArray, List.map_cons, List.map_nil]); first | done | rfl | (simp only [List.length_drop, List.length_take]; rfl)) ?_; (with_reducible refine (tripartiteref08_side.calls ((rd_T109 l0 x7_1).f7) t404 t405 _ A18.out).mono ?_); rintro e w' ⟨rfl, ⟨nd, rfl⟩⟩; refine ⟨_, rfl, ?_⟩) | ((with_reducible refine gate_callee (f := 94) rfl ?_); refine goesL_ (some 65) rfl rfl Try.func94 (by kernel_rfl) rfl #[.agg #[.int .u8 60, .bool false, .string ((rd_T109 l0 x7_1).f0)], .int .i64 a1] rfl (by (try simp only [List.map_toArray, List.map_cons, List.map_nil]); first | done | rfl | (simp only [List.length_drop, List.length_take]; rfl)) ?_; (with_reducible refine (tripartiteref08_line.calls k1 60 false ((rd_T109 l0 x7_1).f0) a1 t406 _ A19.out).mono ?_); rintro e w47 ⟨rfl, hb⟩; refine ⟨_, rfl, ?_⟩; have n0_ := Aside0.mk (blk_below (g := gb399) (o := .cells #[.string ((rd_T109 l0 x7_1).f0), .string ((rd_T109 l0 x7_1).f1), .string ((rd_T109 l0 x7_1).f2), .bool true, .string ((rd_T109 l0 x7_1).f4), .string ((rd_T109 l0 x7_1).f5), .string ((rd_T109 l0 x7_1).f6), .string ((rd_T109 l0 x7_1).f7), .bool false] 109 (0, 0)) (by (with_reducible repeat (first | refine blk_drewN ?_ _ | refine blk_drew ?_ | refine blk_alloc ?_ _)); refine blk_put (cs := #[.string ((rd_T109 l0 x7_1).f0), .string ((rd_T109 l0 x7_1).f1), .string ((rd_T109 l0 x7_1).f2), .bool true, .string ((rd_T109 l0 x7_1).f4), .string ((rd_T109 l0 x7_1).f5), .string ((rd_T109 l0 x7_1).f6), .string ((rd_T109 l0 x7_1).f7), .bool false]) ?_ 8 _ rfl; (with_reducible repeat (first | refine blk_drewN ?_ _ | refine blk_drew ?_ | refine blk_alloc ?_ _)); refine blk_put (cs := #[.string ((rd_T109 l0 x7_1).f0), .string ((rd_T109 l0 x7_1).f1), .string ((rd_T109 l0 x7_1).f2), .bool true, .string ((rd_T109 l0 x7_1).f4), .string ((rd_T109 l0 x7_1).f5), .string ((rd_T109 l0 x7_1).f6), .string (⟨#[]⟩ : ByteArray), .bool false]) ?_ 7 _ rfl; (with_reducible repeat (first | refine blk_drewN ?_ _ | refine blk_drew ?_ | refine blk_alloc ?_ _)); refine blk_put (cs := #[.string ((rd_T109 l0 x7_1).f0), .string ((rd_T109 l0 x7_1).f1), .string ((rd_T109 l0 x7_1).f2), .bool true, .string ((rd_T109 l0 x7_1).f4), .string ((rd_T109 l0 x7_1).f5), .string (⟨#[]⟩ : ByteArray), .string (⟨#[]⟩ : ByteArray), .bool false]) ?_ 6 _ rfl; (with_reducible repeat (first | refine blk_drewN ?_ _ | refine blk_drew ?_ | refine blk_alloc ?_ _)); refine blk_put (cs := #[.string ((rd_T109 l0 x7_1).f0), .string ((rd_T109 l0 x7_1).f1), .string ((rd_T109 l0 x7_1).f2), .bool true, .string ((rd_T109 l0 x7_1).f4), .string (⟨#[]⟩ : ByteArray), .string (⟨#[]⟩ : ByteArray), .string (⟨#[]⟩ : ByteArray), .bool false]) ?_ 5 _ rfl; (with_reducible repeat (first | refine blk_drewN ?_ _ | refine blk_drew ?_ | refine blk_alloc ?_ _)); refine blk_put (cs := #[.string ((rd_T109 l0 x7_1).f0), .string ((rd_T109 l0 x7_1).f1), .string ((rd_T109 l0 x7_1).f2), .bool true, .string (⟨#[]⟩ : ByteArray), .string (⟨#[]⟩ : ByteArray), .string (⟨#[]⟩ : ByteArray), .string (⟨#[]⟩ : ByteArray), .bool false]) ?_ 4 _ rfl; (with_reducible repeat (first | refine blk_drewN ?_ _ | refine blk_drew ?_ | refine blk_alloc ?_ _)); refine blk_put (cs := #[.string ((rd_T109 l0 x7_1).f0), .string ((rd_T109 l0 x7_1).f1), .string ((rd_T109 l0 x7_1).f2), .bool false, .string (⟨#[]⟩ : ByteArray), .string (⟨#[]⟩ : ByteArray), .string (⟨#[]⟩ : ByteArray), .string (⟨#[]⟩ : ByteArray), .bool false]) ?_ 3 _ rfl; (with_reducible repeat (first | refine blk_drewN ?_ _ | refine blk_drew ?_ | refine blk_alloc ?_ _)); refine blk_put (cs := #[.string ((rd_T109 l0 x7_1).f0), .string ((rd_T109 l0 x7_1).f1), .string (⟨#[]⟩ : ByteArray), .bool false, .string (⟨#[]⟩ : ByteArray), .string (⟨#[]⟩ : ByteArray), .string (⟨#[]⟩ : ByteArray), .string (⟨#[]⟩ : ByteArray), .bool false]) ?_ 2 _ rfl; (with_reducible repeat (first | refine blk_drewN ?_ _ | refine blk_drew ?_ | refine blk_alloc ?_ _)); refine blk_put (cs := #[.string ((rd_T109 l0 x7_1).f0), .string (⟨#[]⟩ : ByteArray), .string (⟨#[]⟩ : ByteArray), .bool false, .string (⟨#[]⟩ : ByteArray), .string (⟨#[]⟩ : ByteArray), .string (⟨#[]⟩ : ByteArray), .string (⟨#[]⟩ : ByteArray), .bool false]) ?_ 1 _ rfl; (with_reducible repeat (first | refine blk_drewN ?_ _ | refine blk_drew ?_ | refine blk_alloc ?_ _)); refine blk_put (cs := #[.string (⟨#[]⟩ : ByteArray), .string (⟨#[]⟩ : ByteArray), .string (⟨#[]⟩ : ByteArray), .bool false, .string (⟨#[]⟩ : ByteArray), .string (⟨#[]⟩ : ByteArray), .string (⟨#[]⟩ : ByteArray), .string (⟨#[]⟩ : ByteArray), .bool false]) ?_ 0 _ rfl; (with_reducible repeat (first | refine blk_drewN ?_ _ | refine blk_drew ?_ | refine blk_alloc ?_ _)); exact BK399.out) hb); have n1_ := Aside0.mk (below_step (by repeat (first | (with_reducible first | exact HB.out | apply below_alloc | apply pw_below_drewN | apply below_drew1 | refine below_set ?_ GE399.out) | exact HB.out)) hb); clear BK399; clear HB; have BK399 := n0_; have HB := n1_; clear n0_ n1_; (try clear hb); (try clear hb2); (try clear hk); (try clear hi); have hcz48_0 : w47.cell? ⟨gb399, 0, none⟩ = some (.string ((rd_T109 l0 x7_1).f0)) := (blk_cell BK399.out 0).trans rfl; have hcz48_1 : w47.cell? ⟨gb399, 1, none⟩ = some (.string ((rd_T109 l0 x7_1).f1)) := (blk_cell BK399.out 1).trans rfl; have hcz48_2 : w47.cell? ⟨gb399, 2, none⟩ = some (.string ((rd_T109 l0 x7_1).f2)) := (blk_cell BK399.out 2).trans rfl; have hcz48_3 : w47.cell? ⟨gb399, 3, none⟩ = some (.bool true) := (blk_cell BK399.out 3).trans rfl; have hcz48_4 : w47.cell? ⟨gb399, 4, none⟩ = some (.string ((rd_T109 l0 x7_1).f4)) := (blk_cell BK399.out 4).trans rfl; have hcz48_5 : w47.cell? ⟨gb399, 5, none⟩ = some (.string ((rd_T109 l0 x7_1).f5)) := (blk_cell BK399.out 5).trans rfl; have hcz48_6 : w47.cell? ⟨gb399, 6, none⟩ = some (.string ((rd_T109 l0 x7_1).f6)) := (blk_cell BK399.out 6).trans rfl; have hcz48_7 : w47.cell? ⟨gb399, 7, none⟩ = some (.string ((rd_T109 l0 x7_1).f7)) := (blk_cell BK399.out 7).trans rfl; have hcz48_8 : w47.cell? ⟨gb399, 8, none⟩ = some (.bool false) := (blk_cell BK399.out 8).trans rfl; have hfz48_0 := blk_frozen BK399.out 0; have hfz48_1 := blk_frozen BK399.out 1; have hfz48_2 := blk_frozen BK399.out 2; have hfz48_3 := blk_frozen BK399.out 3; have hfz48_4 := blk_frozen BK399.out 4; have hfz48_5 := blk_frozen BK399.out 5; have hfz48_6 := blk_frozen BK399.out 6; have hfz48_7 := blk_frozen BK399.out 7; have hfz48_8 := blk_frozen BK399.out 8))
                have n0_ := Aside0.mk (blk_drew BK399.out)
                have n1_ := Aside0.mk (below_drew1 HB.out)
                clear BK399
                clear HB
                have BK399 := n0_
                have HB := n1_
                clear n0_ n1_
                refine start_ (n := 16) (S := fun w' => w'.cell? ⟨gb399, 0, none⟩ = some (.string ((rd_T109 l0 x7_1).f0)) ∧ w'.cell? ⟨gb399, 1, none⟩ = some (.string ((rd_T109 l0 x7_1).f1)) ∧ w'.cell? ⟨gb399, 2, none⟩ = some (.string ((rd_T109 l0 x7_1).f2)) ∧ w'.cell? ⟨gb399, 3, none⟩ = some (.bool true) ∧ w'.cell? ⟨gb399, 4, none⟩ = some (.string ((rd_T109 l0 x7_1).f4)) ∧ w'.cell? ⟨gb399, 5, none⟩ = some (.string ((rd_T109 l0 x7_1).f5)) ∧ w'.cell? ⟨gb399, 6, none⟩ = some (.string ((rd_T109 l0 x7_1).f6)) ∧ w'.cell? ⟨gb399, 7, none⟩ = some (.string ((rd_T109 l0 x7_1).f7)) ∧ w'.cell? ⟨gb399, 8, none⟩ = some (.bool false)) (ds := []) #[false, false, false, false, false, false, false, false, false, false, false, false, false, false, false, false] (by kernel_rfl) rfl rfl ⟨(blk_cell BK399.out 0).trans rfl, (blk_cell BK399.out 1).trans rfl, (blk_cell BK399.out 2).trans rfl, (blk_cell BK399.out 3).trans rfl, (blk_cell BK399.out 4).trans rfl, (blk_cell BK399.out 5).trans rfl, (blk_cell BK399.out 6).trans rfl, (blk_cell BK399.out 7).trans rfl, (blk_cell BK399.out 8).trans rfl⟩ (fun hHeld => ?_); refine with_tabW tripartiteref08_Print.tab21 tripartiteref08_Print.bits21 (fun HT_ HW_ => ?_)
                generalize w47.drew = w49 at BK399 HB hHeld ⊢
                refine pure_ (i := 0) (N := some 82) (v := ?_) (a' := ?_) #[true, false, false, false, false, false, false, false, false, false, false, false, false, false, false, false] rfl rfl (any_of HT_.out (by kernel_rfl)) (fun _ _ _ h => h) (Or.inl ⟨by rfl, ?_⟩) ?_ ?_
                rotate_left
                ·intro w'
                 go_simp
                 with_reducible rfl
                rotate_left
                ·simp only [Act.put, List.setIfInBounds_toArray, List.set_cons_zero, List.set_cons_succ, i64_w, i32_w]
                 rfl
                refine pure_ (i := 1) (N := some 83) (v := ?_) (a' := ?_) #[true, true, false, false, false, false, false, false, false, false, false, false, false, false, false, false] rfl rfl (any_of HT_.out (by kernel_rfl)) (fun _ _ _ h => h) (Or.inl ⟨by rfl, ?_⟩) ?_ ?_
                rotate_left
                ·intro w'
                 go_simp
                 with_reducible rfl
                rotate_left
                ·simp only [Act.put, List.setIfInBounds_toArray, List.set_cons_zero, List.set_cons_succ, i64_w, i32_w]
                 rfl
                refine pure_ (i := 2) (N := some 84) (v := ?_) (a' := ?_) #[true, true, true, false, false, false, false, false, false, false, false, false, false, false, false, false] rfl rfl (any_of HT_.out (by kernel_rfl)) (fun _ _ _ h => h) (Or.inl ⟨by rfl, ?_⟩) ?_ ?_
                rotate_left
                ·intro w'
                 go_simp
                 with_reducible rfl
                rotate_left
                ·simp only [Act.put, List.setIfInBounds_toArray, List.set_cons_zero, List.set_cons_succ, i64_w, i32_w]
                 rfl
                refine pure_ (i := 3) (N := some 85) (v := ?_) (a' := ?_) #[true, true, true, true, false, false, false, false, false, false, false, false, false, false, false, false] rfl rfl (any_of HT_.out (by kernel_rfl)) (fun _ _ _ h => h) (Or.inl ⟨by rfl, ?_⟩) ?_ ?_
                rotate_left
                ·intro w'
                 go_simp
                 with_reducible rfl
                rotate_left
                ·simp only [Act.put, List.setIfInBounds_toArray, List.set_cons_zero, List.set_cons_succ, i64_w, i32_w]
                 rfl
                refine pure_ (i := 6) (N := some 88) (v := ?_) (a' := ?_) #[true, true, true, true, false, false, true, false, false, false, false, false, false, false, false, false] rfl rfl (any_of HT_.out (by kernel_rfl)) (fun _ _ _ h => h) (Or.inl ⟨by rfl, ?_⟩) ?_ ?_
                rotate_left
                ·intro w'
                 go_simp
                 with_reducible rfl
                rotate_left
                ·simp only [Act.put, List.setIfInBounds_toArray, List.set_cons_zero, List.set_cons_succ, i64_w, i32_w]
                 rfl
                refine pure_ (i := 8) (N := some 90) (v := ?_) (a' := ?_) #[true, true, true, true, false, false, true, false, true, false, false, false, false, false, false, false] rfl rfl (any_of HT_.out (by kernel_rfl)) (fun _ _ _ h => h) (Or.inl ⟨by rfl, ?_⟩) ?_ ?_
                rotate_left
                ·intro w'
                 go_simp
                 with_reducible rfl
                rotate_left
                ·simp only [Act.put, List.setIfInBounds_toArray, List.set_cons_zero, List.set_cons_succ, i64_w, i32_w]
                 rfl
                refine pure_ (i := 9) (N := some 91) (v := ?_) (a' := ?_) #[true, true, true, true, false, false, true, false, true, true, false, false, false, false, false, false] rfl rfl (any_of HT_.out (by kernel_rfl)) (fun _ _ _ h => h) (Or.inl ⟨by rfl, ?_⟩) ?_ ?_
                rotate_left
                ·intro w'
                 go_simp
                 with_reducible rfl
                rotate_left
                ·simp only [Act.put, List.setIfInBounds_toArray, List.set_cons_zero, List.set_cons_succ, i64_w, i32_w]
                 rfl
                refine pure_ (i := 12) (N := some 94) (v := ?_) (a' := ?_) #[true, true, true, true, false, false, true, false, true, true, false, false, true, false, false, false] rfl rfl (any_of HT_.out (by kernel_rfl)) (fun _ _ _ h => h) (Or.inl ⟨by rfl, ?_⟩) ?_ ?_
                rotate_left
                ·intro w'
                 go_simp
                 with_reducible rfl
                rotate_left
                ·simp only [Act.put, List.setIfInBounds_toArray, List.set_cons_zero, List.set_cons_succ, i64_w, i32_w]
                 rfl
                refine take_ (i := 10) (N := some 92) (v := ?_) (a' := ?_) #[true, true, true, true, false, false, true, false, true, true, true, false, true, false, false, false] rfl rfl (take_ofW HT_.out HW_.out (by kernel_rfl)) (fun _ _ _ h => h) (Or.inl ⟨by rfl, ?_⟩) hHeld ?_ ?_
                rotate_left
                ·rintro w' ⟨s0, s1, s2, s3, s4, s5, s6, s7, s8⟩
                 go_simp
                 with_reducible rfl
                rotate_left
                ·simp only [Act.put, List.setIfInBounds_toArray, List.set_cons_zero, List.set_cons_succ, i64_w, i32_w]
                 rfl
                refine pure_ (i := 11) (N := some 93) (v := ?_) (a' := ?_) #[true, true, true, true, false, false, true, false, true, true, true, true, true, false, false, false] rfl rfl (any_of HT_.out (by kernel_rfl)) (fun _ _ _ h => h) (Or.inl ⟨by rfl, ?_⟩) ?_ ?_
                rotate_left
                ·intro w'
                 go_simp
                 with_reducible rfl
                rotate_left
                ·simp only [Act.put, List.setIfInBounds_toArray, List.set_cons_zero, List.set_cons_succ, i64_w, i32_w]
                 rfl
                refine one_ (i := 4) (N := some 86) #[true, true, true, true, true, false, true, false, true, true, true, true, true, false, false, false] rfl rfl (one_of HT_.out (by kernel_rfl)) (by decide) (fun K hK => ?_)
                refine goes_ Try.func94 (by kernel_rfl) rfl #[.agg #[.int .u8 61, .bool t401, .string (⟨#[]⟩ : ByteArray)], .int .i64 a1] (by rfl) rfl rfl (by (try simp only [List.map_toArray, List.map_cons, List.map_nil]); first | done | rfl | (simp only [List.length_drop, List.length_take]; rfl)) ?_
                with_reducible refine (tripartiteref08_line.calls k1 61 t401 (⟨#[]⟩ : ByteArray) a1 t410 _ A40.out).mono ?_
                rintro e w50 ⟨rfl, hb⟩
                refine ⟨_, rfl, ?_⟩
                have n0_ := Aside0.mk (blk_below (g := gb399) (o := .cells #[.string ((rd_T109 l0 x7_1).f0), .string ((rd_T109 l0 x7_1).f1), .string ((rd_T109 l0 x7_1).f2), .bool true, .string ((rd_T109 l0 x7_1).f4), .string ((rd_T109 l0 x7_1).f5), .string ((rd_T109 l0 x7_1).f6), .string ((rd_T109 l0 x7_1).f7), .bool false] 109 (0, 0)) (by (with_reducible repeat (first | refine blk_drewN ?_ _ | refine blk_drew ?_ | refine blk_alloc ?_ _)); exact BK399.out) hb)
                have n1_ := Aside0.mk (below_step (by repeat (first | (with_reducible first | exact HB.out | apply below_alloc | apply pw_below_drewN | apply below_drew1 | refine below_set ?_ GE399.out) | exact HB.out)) hb)
                clear BK399
                clear HB
                have BK399 := n0_
                have HB := n1_
                clear n0_ n1_
                (try clear hb)
                (try clear hb2)
                (try clear hk)
                (try clear hi)
                refine hK.out _ _ ⟨(blk_cell BK399.out 0).trans rfl, (blk_cell BK399.out 1).trans rfl, (blk_cell BK399.out 2).trans rfl, (blk_cell BK399.out 3).trans rfl, (blk_cell BK399.out 4).trans rfl, (blk_cell BK399.out 5).trans rfl, (blk_cell BK399.out 6).trans rfl, (blk_cell BK399.out 7).trans rfl, (blk_cell BK399.out 8).trans rfl⟩ (fun hHeld => ?_)
                clear hK K
                refine norm_ (a' := ?_) ?_ ?_
                rotate_left
                ·show Act.put _ (some 86) _ = _
                 simp only [Act.put, List.setIfInBounds_toArray, List.set_cons_zero, List.set_cons_succ, i64_w, i32_w]
                 rfl
                refine pure_ (i := 5) (N := some 87) (v := ?_) (a' := ?_) #[true, true, true, true, true, true, true, false, true, true, true, true, true, false, false, false] rfl rfl (any_of HT_.out (by kernel_rfl)) (fun _ _ _ h => h) (Or.inl ⟨by rfl, ?_⟩) ?_ ?_
                rotate_left
                ·intro w'
                 go_simp
                 with_reducible rfl
                rotate_left
                ·simp only [Act.put, List.setIfInBounds_toArray, List.set_cons_zero, List.set_cons_succ, i64_w, i32_w]
                 rfl
                refine pure_ (i := 7) (N := some 89) (v := ?_) (a' := ?_) #[true, true, true, true, true, true, true, true, true, true, true, true, true, false, false, false] rfl rfl (any_of HT_.out (by kernel_rfl)) (fun _ _ _ h => h) (Or.inl ⟨by rfl, ?_⟩) ?_ ?_
                rotate_left
                ·intro w'
                 go_simp
                 with_reducible rfl
                rotate_left
                ·simp only [Act.put, List.setIfInBounds_toArray, List.set_cons_zero, List.set_cons_succ, i64_w, i32_w]
                 rfl
                refine one_ (i := 13) (N := some 95) #[true, true, true, true, true, true, true, true, true, true, true, true, true, true, false, false] rfl rfl (one_of HT_.out (by kernel_rfl)) (by decide) (fun K hK => ?_)
                refine goes_ Try.func94 (by kernel_rfl) rfl #[.agg #[.int .u8 62, .bool t405, .string ((rd_T109 l0 x7_1).f2)], .int .i64 a1] (by rfl) rfl rfl (by (try simp only [List.map_toArray, List.map_cons, List.map_nil]); first | done | rfl | (simp only [List.length_drop, List.length_take]; rfl)) ?_
                with_reducible refine (tripartiteref08_line.calls k1 62 t405 ((rd_T109 l0 x7_1).f2) a1 t411 _ A43.out).mono ?_
                rintro e w51 ⟨rfl, hb⟩
                refine ⟨_, rfl, ?_⟩
                have n0_ := Aside0.mk (blk_below (g := gb399) (o := .cells #[.string ((rd_T109 l0 x7_1).f0), .string ((rd_T109 l0 x7_1).f1), .string ((rd_T109 l0 x7_1).f2), .bool true, .string ((rd_T109 l0 x7_1).f4), .string ((rd_T109 l0 x7_1).f5), .string ((rd_T109 l0 x7_1).f6), .string ((rd_T109 l0 x7_1).f7), .bool false] 109 (0, 0)) (by (with_reducible repeat (first | refine blk_drewN ?_ _ | refine blk_drew ?_ | refine blk_alloc ?_ _)); exact BK399.out) hb)
                have n1_ := Aside0.mk (below_step (by repeat (first | (with_reducible first | exact HB.out | apply below_alloc | apply pw_below_drewN | apply below_drew1 | refine below_set ?_ GE399.out) | exact HB.out)) hb)
                clear BK399
                clear HB
                have BK399 := n0_
                have HB := n1_
                clear n0_ n1_
                (try clear hb)
                (try clear hb2)
                (try clear hk)
                (try clear hi)
                refine hK.out _ _ ⟨(blk_cell BK399.out 0).trans rfl, (blk_cell BK399.out 1).trans rfl, (blk_cell BK399.out 2).trans rfl, (blk_cell BK399.out 3).trans rfl, (blk_cell BK399.out 4).trans rfl, (blk_cell BK399.out 5).trans rfl, (blk_cell BK399.out 6).trans rfl, (blk_cell BK399.out 7).trans rfl, (blk_cell BK399.out 8).trans rfl⟩ (fun hHeld => ?_)
                clear hK K
                refine norm_ (a' := ?_) ?_ ?_
                rotate_left
                ·show Act.put _ (some 95) _ = _
                 simp only [Act.put, List.setIfInBounds_toArray, List.set_cons_zero, List.set_cons_succ, i64_w, i32_w]
                 rfl
                refine pure_ (i := 14) (N := some 96) (v := ?_) (a' := ?_) #[true, true, true, true, true, true, true, true, true, true, true, true, true, true, true, false] rfl rfl (any_of HT_.out (by kernel_rfl)) (fun _ _ _ h => h) (Or.inl ⟨by rfl, ?_⟩) ?_ ?_
                rotate_left
                ·intro w'
                 go_simp
                 with_reducible rfl
                rotate_left
                ·simp only [Act.put, List.setIfInBounds_toArray, List.set_cons_zero, List.set_cons_succ, i64_w, i32_w]
                 rfl
                refine pure_ (i := 15) (N := some 6) (v := ?_) (a' := ?_) #[true, true, true, true, true, true, true, true, true, true, true, true, true, true, true, true] rfl rfl (any_of HT_.out (by kernel_rfl)) (fun _ _ _ h => h) (Or.inl ⟨by rfl, ?_⟩) ?_ ?_
                rotate_left
                ·intro w'
                 go_simp
                 with_reducible rfl
                rotate_left
                ·simp only [Act.put, List.setIfInBounds_toArray, List.set_cons_zero, List.set_cons_succ, i64_w, i32_w]
                 rfl
                refine done_ (done_of HT_.out (by kernel_rfl)) ?_
                try go_wp2
                go_roundg k1
                case measure => have := HK1.out; omega
                case rel => exact ⟨((((((x6_1 ++ ((rd_T109 l0 x7_1).f4)) ++ t406) ++ t400) ++ t410) ++ t404) ++ t411), (wrap64 (x7_1 + 1)), (by first | rfl | (simp; done) | (simp [*]; done)), (by first | rfl | (simp; done) | (simp [*]; done)), H', ⟨by have := HK1.out; omega⟩, ⟨by repeat (first | (with_reducible first | exact HB.out | apply below_alloc | apply pw_below_drewN | apply below_drew1 | refine below_set ?_ GE399.out) | exact HB.out)⟩⟩
               ·rw [if_neg c44] at H
                exact absurd H (by simp)
              ·rw [if_neg c42] at H
               exact absurd H (by simp)
             ·rw [if_neg c41] at H
              exact absurd H (by simp)
           ·rw [if_neg c21] at H
            exact absurd H (by simp)
          ·rw [if_neg c20] at H
           exact absurd H (by simp)
         ·replace c15 := Bool.eq_false_iff.mpr c15
          subst c15
          have H1 : (tripartiteref08_Print.l0 k1 l0 a1 (x6_1 ++ ((rd_T109 l0 x7_1).f4)) (wrap64 (x7_1 + 1))) = some (r1, r2) := by rw [if_neg (show ¬ (false = true) by decide)] at H; exact H
          clear H
          have H := H1
          clear H1
          have H' := Aside0.mk H
          clear H
          have p398 : 0 ≤ (x7_1 : Int) := of_decide_eq_true (by first | (with_reducible assumption) | assumption)
          have q398 : x7_1 < (l0.length : Int) := of_decide_eq_true (by first | (with_reducible assumption) | assumption)
          obtain ⟨ad398, e398, hx398_0, hx398_1, hx398_2, hx398_3, hx398_4, hx398_5, hx398_6, hx398_7, hx398_8⟩ := at_T109 HR0.out x7_1 p398 q398
          (try rw [← Nbq14.out] at hx398_3)
          (try rw [← Nbq14.out] at hx398_8)
          cases e398
          replace hx398_0 := (HB.out.cell (World.block_lt_of_cell? w _ hx398_0)).trans hx398_0
          replace hx398_1 := (HB.out.cell (World.block_lt_of_cell? w _ hx398_1)).trans hx398_1
          replace hx398_2 := (HB.out.cell (World.block_lt_of_cell? w _ hx398_2)).trans hx398_2
          replace hx398_3 := (HB.out.cell (World.block_lt_of_cell? w _ hx398_3)).trans hx398_3
          replace hx398_4 := (HB.out.cell (World.block_lt_of_cell? w _ hx398_4)).trans hx398_4
          replace hx398_5 := (HB.out.cell (World.block_lt_of_cell? w _ hx398_5)).trans hx398_5
          replace hx398_6 := (HB.out.cell (World.block_lt_of_cell? w _ hx398_6)).trans hx398_6
          replace hx398_7 := (HB.out.cell (World.block_lt_of_cell? w _ hx398_7)).trans hx398_7
          replace hx398_8 := (HB.out.cell (World.block_lt_of_cell? w _ hx398_8)).trans hx398_8
          replace p398 := eq_true p398
          replace q398 := eq_true q398
          go_wp2_with (first | ((with_reducible refine gate_dst (N := 8) rfl ?_); refine box_event ?hg (N := 8) ?hd (cs := #[.string (⟨#[]⟩ : ByteArray), .string (⟨#[]⟩ : ByteArray), .string (⟨#[]⟩ : ByteArray), .bool false, .string (⟨#[]⟩ : ByteArray), .string (⟨#[]⟩ : ByteArray), .string (⟨#[]⟩ : ByteArray), .string (⟨#[]⟩ : ByteArray), .bool false]) (t := 109) ?hr ?_; (case hd => rfl); (case hg => rfl); (case hr => first | (go_simp; done) | (go_simp; rfl)); intro gb399 hg w52 hbox hb; have n0_ := Aside0.mk (below_step (by repeat (first | (with_reducible first | exact HB.out | apply below_alloc | apply pw_below_drewN | apply below_drew1) | exact HB.out)) hb); have n1_ := Aside0.mk (hbox); have n2_ := Aside0.mk ((by rw [hg]; exact (below_size (by repeat (first | (with_reducible first | exact HB.out | apply below_alloc | apply pw_below_drewN | apply below_drew1) | exact HB.out))) : w.heap.size ≤ gb399)); have n3_ := Aside0.mk ((by rw [hg]; exact (below_size (by repeat (first | (with_reducible first | exact HB.out | apply below_alloc | apply pw_below_drewN | apply below_drew1) | exact HB.out))) : w.heap.size ≤ gb399)); clear HB; have HB := n0_; have BK399 := n1_; have GW399 := n2_; have GE399 := n3_; clear n0_ n1_ n2_ n3_; clear hb hbox hg; have hcz53_0 : w52.cell? ⟨gb399, 0, none⟩ = some (.string (⟨#[]⟩ : ByteArray)) := (blk_cell BK399.out 0).trans rfl; have hcz53_1 : w52.cell? ⟨gb399, 1, none⟩ = some (.string (⟨#[]⟩ : ByteArray)) := (blk_cell BK399.out 1).trans rfl; have hcz53_2 : w52.cell? ⟨gb399, 2, none⟩ = some (.string (⟨#[]⟩ : ByteArray)) := (blk_cell BK399.out 2).trans rfl; have hcz53_3 : w52.cell? ⟨gb399, 3, none⟩ = some (.bool false) := (blk_cell BK399.out 3).trans rfl; have hcz53_4 : w52.cell? ⟨gb399, 4, none⟩ = some (.string (⟨#[]⟩ : ByteArray)) := (blk_cell BK399.out 4).trans rfl; have hcz53_5 : w52.cell? ⟨gb399, 5, none⟩ = some (.string (⟨#[]⟩ : ByteArray)) := (blk_cell BK399.out 5).trans rfl; have hcz53_6 : w52.cell? ⟨gb399, 6, none⟩ = some (.string (⟨#[]⟩ : ByteArray)) := (blk_cell BK399.out 6).trans rfl; have hcz53_7 : w52.cell? ⟨gb399, 7, none⟩ = some (.string (⟨#[]⟩ : ByteArray)) := (blk_cell BK399.out 7).trans rfl; have hcz53_8 : w52.cell? ⟨gb399, 8, none⟩ = some (.bool false) := (blk_cell BK399.out 8).trans rfl; have hfz53_0 := blk_frozen BK399.out 0; have hfz53_1 := blk_frozen BK399.out 1; have hfz53_2 := blk_frozen BK399.out 2; have hfz53_3 := blk_frozen BK399.out 3; have hfz53_4 := blk_frozen BK399.out 4; have hfz53_5 := blk_frozen BK399.out 5; have hfz53_6 := blk_frozen BK399.out 6; have hfz53_7 := blk_frozen BK399.out 7; have hfz53_8 := blk_frozen BK399.out 8))
          go_roundg k1
          case measure => have := HK1.out; omega
          case rel => exact ⟨(x6_1 ++ ((rd_T109 l0 x7_1).f4)), (wrap64 (x7_1 + 1)), (by first | rfl | (simp; done) | (simp [*]; done)), (by first | rfl | (simp; done) | (simp [*]; done)), H', ⟨by have := HK1.out; omega⟩, ⟨by repeat (first | (with_reducible first | exact HB.out | apply below_alloc | apply pw_below_drewN | apply below_drew1 | refine below_set ?_ GE399.out) | exact HB.out)⟩⟩
        ·rw [if_neg c13] at H
         exact absurd H (by simp)
       ·rw [if_neg c12] at H
        exact absurd H (by simp)
      ·rw [if_neg c11] at H
       have c11b0 : decide (x7_1 < (l0.length : Int)) = false := decide_eq_false c11
       clear c11
       simp only [Option.some.injEq, Prod.mk.injEq] at H
       obtain ⟨rfl, rfl⟩ := H
       go_wp2
       go_ret2
       exact ⟨by first | rfl | (simp [errW_none, errW_some] <;> rfl) | (simp [*, errW_none, errW_some] <;> rfl), by repeat (first | (with_reducible first | exact HB.out | apply below_alloc | apply pw_below_drewN | apply below_drew1) | exact HB.out)⟩
   ·replace c8 := Bool.eq_false_iff.mpr c8
    subst c8
    have H1 : (some ((⟨#[]⟩ : ByteArray), 4)) = some (r1, r2) := by rw [if_neg (show ¬ (false = true) by decide)] at H; exact H
    clear H
    have H := H1
    clear H1
    simp only [Option.some.injEq, Prod.mk.injEq] at H
    obtain ⟨rfl, rfl⟩ := H
    go_enter Try.func48, Try.ntmps48
    go_wp2_with (first | ((with_reducible refine gate_callee (f := 90) rfl ?_); refine goesL_ (some 16) rfl rfl Try.func90 (by kernel_rfl) rfl #[.int .i64 a1] rfl (by (try simp only [List.map_toArray, List.map_cons, List.map_nil]); first | done | rfl | (simp only [List.length_drop, List.length_take]; rfl)) ?_; (with_reducible refine (tripartiteref08_wide.calls a1 true _ A3.out).mono ?_); rintro e w' ⟨rfl, ⟨nd, rfl⟩⟩; refine ⟨_, rfl, ?_⟩) | ((with_reducible refine gate_callee (f := 91) rfl ?_); refine goesL_ (some 19) rfl rfl Try.func91 (by kernel_rfl) rfl #[.slice A0 l0.length c0] rfl (by (try simp only [List.map_toArray, List.map_cons, List.map_nil]); first | done | rfl | (simp only [List.length_drop, List.length_take]; rfl)) ?_; (with_reducible refine (tripartiteref07_Right.calls k _ _ l0 true _ ?side1 ?side2 A5.out).mono ?_); (case side1 => repeat (first | exact HR0.out | (with_reducible refine Kd.C_alloc ?_ _) | (with_reducible refine Kd.C_drewN ?_ _) | (with_reducible refine Kd.C_drew ?_))); (case side2 => exact HC0.out); rintro e w54 ⟨rfl, hb⟩; refine ⟨_, rfl, ?_⟩; have n0_ := Aside0.mk (below_step (by repeat (first | (with_reducible first | exact HB.out | apply below_alloc | apply pw_below_drewN | apply below_drew1) | exact HB.out)) hb); clear HB; have HB := n0_; clear n0_; (try clear hb); (try clear hb2); (try clear hk); (try clear hi)) | ((with_reducible refine gate_callee (f := 92) rfl ?_); refine goesL_ (some 23) rfl rfl Try.func92 (by kernel_rfl) rfl #[.slice A0 l0.length c0, .int .i64 a1] rfl (by (try simp only [List.map_toArray, List.map_cons, List.map_nil]); first | done | rfl | (simp only [List.length_drop, List.length_take]; rfl)) ?_; (with_reducible refine (tripartiteref07_Fits.calls k _ _ l0 a1 false _ ?side1 ?side2 A7.out).mono ?_); (case side1 => repeat (first | exact (Kd.C_below HR0.out HB.out) | (with_reducible refine Kd.C_alloc ?_ _) | (with_reducible refine Kd.C_drewN ?_ _) | (with_reducible refine Kd.C_drew ?_))); (case side2 => exact HC0.out); rintro e w55 ⟨rfl, hb⟩; refine ⟨_, rfl, ?_⟩; have n0_ := Aside0.mk (below_step (by repeat (first | (with_reducible first | exact HB.out | apply below_alloc | apply pw_below_drewN | apply below_drew1) | exact HB.out)) hb); clear HB; have HB := n0_; clear n0_; (try clear hb); (try clear hb2); (try clear hk); (try clear hi)))
    go_ret2
    exact ⟨by first | rfl | (simp [errW_none, errW_some] <;> rfl) | (simp [*, errW_none, errW_some] <;> rfl), by repeat (first | (with_reducible first | exact HB.out | apply below_alloc | apply pw_below_drewN | apply below_drew1) | exact HB.out)⟩
  ·replace c6 := Bool.eq_false_iff.mpr c6
   subst c6
   have H1 : (some ((⟨#[]⟩ : ByteArray), 11)) = some (r1, r2) := by rw [if_neg (show ¬ (false = true) by decide)] at H; exact H
   clear H
   have H := H1
   clear H1
   simp only [Option.some.injEq, Prod.mk.injEq] at H
   obtain ⟨rfl, rfl⟩ := H
   go_enter Try.func48, Try.ntmps48
   go_wp2_with (first | ((with_reducible refine gate_callee (f := 90) rfl ?_); refine goesL_ (some 16) rfl rfl Try.func90 (by kernel_rfl) rfl #[.int .i64 a1] rfl (by (try simp only [List.map_toArray, List.map_cons, List.map_nil]); first | done | rfl | (simp only [List.length_drop, List.length_take]; rfl)) ?_; (with_reducible refine (tripartiteref08_wide.calls a1 true _ A3.out).mono ?_); rintro e w' ⟨rfl, ⟨nd, rfl⟩⟩; refine ⟨_, rfl, ?_⟩) | ((with_reducible refine gate_callee (f := 91) rfl ?_); refine goesL_ (some 19) rfl rfl Try.func91 (by kernel_rfl) rfl #[.slice A0 l0.length c0] rfl (by (try simp only [List.map_toArray, List.map_cons, List.map_nil]); first | done | rfl | (simp only [List.length_drop, List.length_take]; rfl)) ?_; (with_reducible refine (tripartiteref07_Right.calls k _ _ l0 false _ ?side1 ?side2 A5.out).mono ?_); (case side1 => repeat (first | exact HR0.out | (with_reducible refine Kd.C_alloc ?_ _) | (with_reducible refine Kd.C_drewN ?_ _) | (with_reducible refine Kd.C_drew ?_))); (case side2 => exact HC0.out); rintro e w56 ⟨rfl, hb⟩; refine ⟨_, rfl, ?_⟩; have n0_ := Aside0.mk (below_step (by repeat (first | (with_reducible first | exact HB.out | apply below_alloc | apply pw_below_drewN | apply below_drew1) | exact HB.out)) hb); clear HB; have HB := n0_; clear n0_; (try clear hb); (try clear hb2); (try clear hk); (try clear hi)))
   go_ret2
   exact ⟨by first | rfl | (simp [errW_none, errW_some] <;> rfl) | (simp [*, errW_none, errW_some] <;> rfl), by repeat (first | (with_reducible first | exact HB.out | apply below_alloc | apply pw_below_drewN | apply below_drew1) | exact HB.out)⟩
 ·replace c4 := Bool.eq_false_iff.mpr c4
  subst c4
  have H1 : (some ((⟨#[]⟩ : ByteArray), 4)) = some (r1, r2) := by rw [if_neg (show ¬ (false = true) by decide)] at H; exact H
  clear H
  have H := H1
  clear H1
  simp only [Option.some.injEq, Prod.mk.injEq] at H
  obtain ⟨rfl, rfl⟩ := H
  go_enter Try.func48, Try.ntmps48
  go_wp2_with (first | ((with_reducible refine gate_callee (f := 90) rfl ?_); refine goesL_ (some 16) rfl rfl Try.func90 (by kernel_rfl) rfl #[.int .i64 a1] rfl (by (try simp only [List.map_toArray, List.map_cons, List.map_nil]); first | done | rfl | (simp only [List.length_drop, List.length_take]; rfl)) ?_; (with_reducible refine (tripartiteref08_wide.calls a1 false _ A3.out).mono ?_); rintro e w' ⟨rfl, ⟨nd, rfl⟩⟩; refine ⟨_, rfl, ?_⟩))
  go_ret2
  exact ⟨by first | rfl | (simp [errW_none, errW_some] <;> rfl) | (simp [*, errW_none, errW_some] <;> rfl), by repeat (first | (with_reducible first | exact HB.out | apply below_alloc | apply pw_below_drewN | apply below_drew1) | exact HB.out)⟩
end Go.Proofs.Ytfiamddinkokbaa.F
