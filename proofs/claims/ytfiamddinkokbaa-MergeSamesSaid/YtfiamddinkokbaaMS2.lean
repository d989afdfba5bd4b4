/- Texts joined into one file (wip/tools/pack.py): Fn135, ChunkOf, Back, MidF, Middle, Ends, Find, Match, Fn32, Fn44, Fn41, Fn43, Fn40, Fn29, Fn71, Fn19, FeqA84, Fn75 -/
import Derived.Test.YtfiamddinkokbaaMS1
import Derived.Deep.RegionHeld3
section
set_option linter.unusedVariables false
set_option linter.unusedSimpArgs false
namespace Go.Proofs.Ytfiamddinkokbaa.F
open Go.RowKit Go.Proofs.YtfiamddinkokbaaW.PrintWords Go.Proofs.YtfiamddinkokbaaW.PrintLast Go.Proofs.YtfiamddinkokbaaW.PrintMore
attribute [local go_sem] max2_int min2_int max_two min_two max_three min_three max_four min_four
set_option linter.unusedVariables false
set_option linter.unusedSimpArgs false
def chunk_sweep_next.l0 : Nat → Int → List Int → List Int → Int → Int → Int → Option (Int × Int × Int × Int)
 | 0, _, _, _, _, _, _ => none
 | k + 1, x3, x1000, x1001, x1002, x1003, x1004 => if x3 < (x1000.length : Int) then (if 0 ≤ x3 then (if (rd x1000 x3) < x1003 then (chunk_sweep_next.l0 k (wrap64 (x3 + 1)) x1000 x1001 x1002 x1003 x1004) else (if x3 < (x1001.length : Int) then (if (rd x1001 x3) < x1004 then (chunk_sweep_next.l0 k (wrap64 (x3 + 1)) x1000 x1001 x1002 x1003 x1004) else (some (x3, x1002, x1003, x1004))) else (none))) else (none)) else (some (x3, x1002, x1003, x1004))
def chunk_sweep_next.f (k : Nat) (s0_0 : List Int) (s0_1 : List Int) (s0_2 : Int) (s0_3 : Int) (s0_4 : Int) : Option (Int × Int × Int × Int) := chunk_sweep_next.l0 k s0_2 s0_0 s0_1 s0_2 s0_3 s0_4
theorem chunk_sweep_next.mono_l : ∀ k, (∀ y0 y1 y2 y3 y4 y5, LeO (chunk_sweep_next.l0 k y0 y1 y2 y3 y4 y5) (chunk_sweep_next.l0 (k + 1) y0 y1 y2 y3 y4 y5))
 | 0 => fun _ _ _ _ _ _ r h => by simp [chunk_sweep_next.l0] at h
 | k + 1 => by
  have ih0 := chunk_sweep_next.mono_l k
  ·intro y0 y1 y2 y3 y4 y5
   unfold chunk_sweep_next.l0
   repeat' first
   | (with_reducible exact ih0 _ _ _ _ _ _)
   | (with_reducible exact LeO.refl _)
   | (with_reducible exact LeO.none _)
   | (with_reducible refine LeO.ite ?_ ?_)
   | (with_reducible refine LeO.bind ?_ (fun _ => ?_))
   | exact ih0 _ _ _ _ _ _
   | exact LeO.none _
   | refine LeO.ite ?_ ?_
   | refine LeO.bind ?_ (fun _ => ?_)
theorem chunk_sweep_next.mono : ∀ a0 a1 a2 a3 a4 k, LeO (chunk_sweep_next.f k a0 a1 a2 a3 a4) (chunk_sweep_next.f (k + 1) a0 a1 a2 a3 a4) := by
 intro a0 a1 a2 a3 a4 k
 have ih0 := chunk_sweep_next.mono_l k
 unfold chunk_sweep_next.f
 repeat' first
   | (with_reducible exact ih0 _ _ _ _ _ _)
   | (with_reducible exact LeO.refl _)
   | (with_reducible exact LeO.none _)
   | (with_reducible refine LeO.ite ?_ ?_)
   | (with_reducible refine LeO.bind ?_ (fun _ => ?_))
   | exact ih0 _ _ _ _ _ _
   | exact LeO.none _
   | refine LeO.ite ?_ ?_
   | refine LeO.bind ?_ (fun _ => ?_)
set_option maxHeartbeats 8000000 in
set_option maxRecDepth 100000 in
theorem chunk_sweep_next.calls (k : Nat) (g : Nat) (s0_0 : List Int) (s0_1 : List Int) (s0_2 : Int) (s0_3 : Int) (s0_4 : Int) (r1 : Int) (r2 : Int) (r3 : Int) (r4 : Int) (w0 w : World) (hI : IsS173 w0 w g s0_0 s0_1 s0_2 s0_3 s0_4) (hB : Below w0.heap.size w0 w) (h : chunk_sweep_next.f k s0_0 s0_1 s0_2 s0_3 s0_4 = some (r1, r2, r3, r4)) :
  Calls Try.prog 135 #[.pointer (some ⟨g, 0, none⟩)] w fun e w' => e = .returned (.int .i64 r1) ∧ IsS173 w0 w' g s0_0 s0_1 r2 r3 r4 ∧ Below w0.heap.size w0 w' ∧ KeepBut w w' g none := by
 have HI0 := Aside0.mk hI
 have HK := Aside0.mk (KeepBut.refl w g none)
 have HL := Aside0.mk hB.size
 clear hI
 have HW0 := Aside0.mk hB.size
 have HB := Aside0.mk hB
 clear hB
 have H : (chunk_sweep_next.l0 k s0_2 s0_0 s0_1 s0_2 s0_3 s0_4) = some (r1, r2, r3, r4) := h
 clear h
 have H' := Aside0.mk H
 clear H
 obtain ⟨ASz2_0, cSz2_0, ASz2_1, cSz2_1, HGz2, hgz2, HSz2_0, HSz2_1⟩ := HI0.out
 have hcz2_0 := cellS173_0 HGz2
 have hcz2_1 := cellS173_1 HGz2
 have hcz2_2 := cellS173_2 HGz2
 have hcz2_3 := cellS173_3 HGz2
 have hcz2_4 := cellS173_4 HGz2
 have hfz2_2 := blk_frozen HGz2 2
 have hfz2_3 := blk_frozen HGz2 3
 have hfz2_4 := blk_frozen HGz2 4
 clear HGz2 hgz2
 go_enter Try.func135, Try.ntmps135
 go_wp2
 repeat (go_quiet (fail); try go_wp2)
 go_loopg [3] k (fun kq v3 w' => ∃ (x3_1 : Int), v3 = .int .i64 x3_1 ∧ Aside0 (chunk_sweep_next.l0 kq x3_1 s0_0 s0_1 s0_2 s0_3 s0_4 = some (r1, r2, r3, r4)) ∧ Aside0 (kq ≤ k) ∧ Aside0 (IsS173 w0 w' g s0_0 s0_1 s0_2 s0_3 s0_4) ∧ Aside0 (KeepBut w w' g none) ∧ Aside0 (Below w0.heap.size w0 w'))
 case atStart => exact ⟨(s0_2), (by first | rfl | (simp; done) | (simp [*]; done)), H', ⟨Nat.le_refl _⟩, ⟨by repeat (first | (with_reducible first | exact HI0.out | apply IsS173.alloc | apply IsS173.drewN | apply IsS173.drew | apply IsS173.set_2 | apply IsS173.set_3 | apply IsS173.set_4) | exact HI0.out)⟩, ⟨by repeat (first | (with_reducible first | exact HK.out | apply KeepBut.set_ | apply keep_drewN | apply keep_drew | apply keep_alloc) | exact HK.out)⟩, ⟨by repeat (first | (with_reducible first | exact HB.out | apply below_alloc | apply pw_below_drewN | apply below_drew1 | refine below_set ?_ (IsS173.ge HI0.out)) | exact HB.out)⟩⟩
 case round =>
  clear H'
  try clear c1
  try clear p2
  try clear hcz2_0
  try clear hcz2_1
  try clear hcz2_2
  try clear hcz2_3
  try clear hcz2_4
  try clear hfz2_2
  try clear hfz2_3
  try clear hfz2_4
  obtain ⟨x3_1, rfl, HA, HK1, HI0, HK, HB⟩ := hrel
  cases gk with
  | zero => exact absurd HA.out (by simp [chunk_sweep_next.l0])
  | succ k1 =>
   have H := HA.out
   clear HA
   simp only [chunk_sweep_next.l0] at H
   by_cases c3 : x3_1 < (s0_0.length : Int)
   ·rw [if_pos c3] at H
    have c3b0 : decide (x3_1 < (s0_0.length : Int)) = true := decide_eq_true c3
    clear c3
    by_cases c4 : 0 ≤ x3_1
    ·rw [if_pos c4] at H
     have c4b0 : decide (0 ≤ x3_1) = true := decide_eq_true c4
     clear c4
     by_cases c5 : (rd s0_0 x3_1) < s0_3
     ·rw [if_pos c5] at H
      have c5b0 : decide ((rd s0_0 x3_1) < s0_3) = true := decide_eq_true c5
      clear c5
      have H' := Aside0.mk H
      clear H
      obtain ⟨ASz6_0, cSz6_0, ASz6_1, cSz6_1, HGz6, hgz6, HSz6_0, HSz6_1⟩ := HI0.out
      have hcz6_0 := cellS173_0 HGz6
      have hcz6_1 := cellS173_1 HGz6
      have hcz6_2 := cellS173_2 HGz6
      have hcz6_3 := cellS173_3 HGz6
      have hcz6_4 := cellS173_4 HGz6
      have hfz6_2 := blk_frozen HGz6 2
      have hfz6_3 := blk_frozen HGz6 3
      have hfz6_4 := blk_frozen HGz6 4
      clear HGz6 hgz6
      have p562 : 0 ≤ (x3_1 : Int) := of_decide_eq_true (by first | (with_reducible assumption) | assumption)
      have q562 : x3_1 < (s0_0.length : Int) := of_decide_eq_true (by first | (with_reducible assumption) | assumption)
      obtain ⟨ad562, e562, hx562_0⟩ := Kd.at_int HSz6_0 x3_1 p562 q562
      cases e562
      replace hx562_0 := pw_cell_below HB.out hx562_0
      replace p562 := eq_true p562
      replace q562 := eq_true q562
      go_wp2
      repeat (go_quiet (fail); try go_wp2)
      go_roundg k1
      case measure => have := HK1.out; omega
      case rel => exact ⟨(wrap64 (x3_1 + 1)), (by first | rfl | (simp; done) | (simp [*]; done)), H', ⟨by have := HK1.out; omega⟩, ⟨by repeat (first | (with_reducible first | exact HI0.out | apply IsS173.alloc | apply IsS173.drewN | apply IsS173.drew | apply IsS173.set_2 | apply IsS173.set_3 | apply IsS173.set_4) | exact HI0.out)⟩, ⟨by repeat (first | (with_reducible first | exact HK.out | apply KeepBut.set_ | apply keep_drewN | apply keep_drew | apply keep_alloc) | exact HK.out)⟩, ⟨by repeat (first | (with_reducible first | exact HB.out | apply below_alloc | apply pw_below_drewN | apply below_drew1 | refine below_set ?_ (IsS173.ge HI0.out)) | exact HB.out)⟩⟩
     ·rw [if_neg c5] at H
      have c5b0 : decide ((rd s0_0 x3_1) < s0_3) = false := decide_eq_false c5
      clear c5
      by_cases c7 : x3_1 < (s0_1.length : Int)
      ·rw [if_pos c7] at H
       have c7b0 : decide (x3_1 < (s0_1.length : Int)) = true := decide_eq_true c7
       clear c7
       by_cases c8 : (rd s0_1 x3_1) < s0_4
       ·rw [if_pos c8] at H
        have c8b0 : decide ((rd s0_1 x3_1) < s0_4) = true := decide_eq_true c8
        clear c8
        have H' := Aside0.mk H
        clear H
        obtain ⟨ASz9_0, cSz9_0, ASz9_1, cSz9_1, HGz9, hgz9, HSz9_0, HSz9_1⟩ := HI0.out
        have hcz9_0 := cellS173_0 HGz9
        have hcz9_1 := cellS173_1 HGz9
        have hcz9_2 := cellS173_2 HGz9
        have hcz9_3 := cellS173_3 HGz9
        have hcz9_4 := cellS173_4 HGz9
        have hfz9_2 := blk_frozen HGz9 2
        have hfz9_3 := blk_frozen HGz9 3
        have hfz9_4 := blk_frozen HGz9 4
        clear HGz9 hgz9
        have p562 : 0 ≤ (x3_1 : Int) := of_decide_eq_true (by first | (with_reducible assumption) | assumption)
        have q562 : x3_1 < (s0_0.length : Int) := of_decide_eq_true (by first | (with_reducible assumption) | assumption)
        obtain ⟨ad562, e562, hx562_0⟩ := Kd.at_int HSz9_0 x3_1 p562 q562
        cases e562
        replace hx562_0 := pw_cell_below HB.out hx562_0
        replace p562 := eq_true p562
        replace q562 := eq_true q562
        have p563 : 0 ≤ (x3_1 : Int) := of_decide_eq_true (by first | (with_reducible assumption) | assumption)
        have q563 : x3_1 < (s0_1.length : Int) := of_decide_eq_true (by first | (with_reducible assumption) | assumption)
        obtain ⟨ad563, e563, hx563_0⟩ := Kd.at_int HSz9_1 x3_1 p563 q563
        cases e563
        replace hx563_0 := pw_cell_below HB.out hx563_0
        replace p563 := eq_true p563
        replace q563 := eq_true q563
        go_wp2
        repeat (go_quiet (fail); try go_wp2)
        go_roundg k1
        case measure => have := HK1.out; omega
        case rel => exact ⟨(wrap64 (x3_1 + 1)), (by first | rfl | (simp; done) | (simp [*]; done)), H', ⟨by have := HK1.out; omega⟩, ⟨by repeat (first | (with_reducible first | exact HI0.out | apply IsS173.alloc | apply IsS173.drewN | apply IsS173.drew | apply IsS173.set_2 | apply IsS173.set_3 | apply IsS173.set_4) | exact HI0.out)⟩, ⟨by repeat (first | (with_reducible first | exact HK.out | apply KeepBut.set_ | apply keep_drewN | apply keep_drew | apply keep_alloc) | exact HK.out)⟩, ⟨by repeat (first | (with_reducible first | exact HB.out | apply below_alloc | apply pw_below_drewN | apply below_drew1 | refine below_set ?_ (IsS173.ge HI0.out)) | exact HB.out)⟩⟩
       ·rw [if_neg c8] at H
        have c8b0 : decide ((rd s0_1 x3_1) < s0_4) = false := decide_eq_false c8
        clear c8
        simp only [Option.some.injEq, Prod.mk.injEq] at H
        obtain ⟨rfl, rfl, rfl, rfl⟩ := H
        obtain ⟨ASz10_0, cSz10_0, ASz10_1, cSz10_1, HGz10, hgz10, HSz10_0, HSz10_1⟩ := HI0.out
        have hcz10_0 := cellS173_0 HGz10
        have hcz10_1 := cellS173_1 HGz10
        have hcz10_2 := cellS173_2 HGz10
        have hcz10_3 := cellS173_3 HGz10
        have hcz10_4 := cellS173_4 HGz10
        have hfz10_2 := blk_frozen HGz10 2
        have hfz10_3 := blk_frozen HGz10 3
        have hfz10_4 := blk_frozen HGz10 4
        clear HGz10 hgz10
        have p562 : 0 ≤ (x3_1 : Int) := of_decide_eq_true (by first | (with_reducible assumption) | assumption)
        have q562 : x3_1 < (s0_0.length : Int) := of_decide_eq_true (by first | (with_reducible assumption) | assumption)
        obtain ⟨ad562, e562, hx562_0⟩ := Kd.at_int HSz10_0 x3_1 p562 q562
        cases e562
        replace hx562_0 := pw_cell_below HB.out hx562_0
        replace p562 := eq_true p562
        replace q562 := eq_true q562
        have p563 : 0 ≤ (x3_1 : Int) := of_decide_eq_true (by first | (with_reducible assumption) | assumption)
        have q563 : x3_1 < (s0_1.length : Int) := of_decide_eq_true (by first | (with_reducible assumption) | assumption)
        obtain ⟨ad563, e563, hx563_0⟩ := Kd.at_int HSz10_1 x3_1 p563 q563
        cases e563
        replace hx563_0 := pw_cell_below HB.out hx563_0
        replace p563 := eq_true p563
        replace q563 := eq_true q563
        go_wp2
        repeat (go_quiet (fail); try go_wp2)
        go_ret
        exact ⟨by first | rfl | (simp [errW_none, errW_some] <;> rfl) | (simp [*, errW_none, errW_some] <;> rfl), by repeat (first | (with_reducible first | exact HI0.out | apply IsS173.alloc | apply IsS173.drewN | apply IsS173.drew | apply IsS173.set_2 | apply IsS173.set_3 | apply IsS173.set_4) | exact HI0.out), by repeat (first | (with_reducible first | exact HB.out | apply below_alloc | apply pw_below_drewN | apply below_drew1 | refine below_set ?_ (IsS173.ge HI0.out)) | exact HB.out), by repeat (first | (with_reducible first | exact HK.out | apply KeepBut.set_ | apply keep_drewN | apply keep_drew | apply keep_alloc) | exact HK.out)⟩
      ·rw [if_neg c7] at H
       exact absurd H (by simp)
    ·rw [if_neg c4] at H
     exact absurd H (by simp)
   ·rw [if_neg c3] at H
    have c3b0 : decide (x3_1 < (s0_0.length : Int)) = false := decide_eq_false c3
    clear c3
    simp only [Option.some.injEq, Prod.mk.injEq] at H
    obtain ⟨rfl, rfl, rfl, rfl⟩ := H
    obtain ⟨ASz11_0, cSz11_0, ASz11_1, cSz11_1, HGz11, hgz11, HSz11_0, HSz11_1⟩ := HI0.out
    have hcz11_0 := cellS173_0 HGz11
    have hcz11_1 := cellS173_1 HGz11
    have hcz11_2 := cellS173_2 HGz11
    have hcz11_3 := cellS173_3 HGz11
    have hcz11_4 := cellS173_4 HGz11
    have hfz11_2 := blk_frozen HGz11 2
    have hfz11_3 := blk_frozen HGz11 3
    have hfz11_4 := blk_frozen HGz11 4
    clear HGz11 hgz11
    go_wp2
    repeat (go_quiet (fail); try go_wp2)
    go_ret
    exact ⟨by first | rfl | (simp [errW_none, errW_some] <;> rfl) | (simp [*, errW_none, errW_some] <;> rfl), by repeat (first | (with_reducible first | exact HI0.out | apply IsS173.alloc | apply IsS173.drewN | apply IsS173.drew | apply IsS173.set_2 | apply IsS173.set_3 | apply IsS173.set_4) | exact HI0.out), by repeat (first | (with_reducible first | exact HB.out | apply below_alloc | apply pw_below_drewN | apply below_drew1 | refine below_set ?_ (IsS173.ge HI0.out)) | exact HB.out), by repeat (first | (with_reducible first | exact HK.out | apply KeepBut.set_ | apply keep_drewN | apply keep_drew | apply keep_alloc) | exact HK.out)⟩
end Go.Proofs.Ytfiamddinkokbaa.F
end

section
set_option linter.unusedVariables false
set_option linter.unusedSimpArgs false
namespace Go.Proofs.Ytfiamddinkokbaa.F
open Go.RowKit Go.Shelf Go.Proofs.YtfiamddinkokbaaW.PrintWords
set_option linter.unusedVariables false
set_option linter.unusedSimpArgs false
abbrev SC := S91
theorem together_state {x y : List Int} {o a b n : Int} {r : Bool × Int × Int × Int} (h : chunk_sweep_together.f x y o a b n = some r) : r.2 = (o, a, b) := by
 unfold chunk_sweep_together.f at h
 repeat' split at h
 all_goals first | (obtain rfl := Option.some.inj h; rfl) | cases h
theorem stable_state_l {x y : List Int} : ∀ (k : Nat) (n o a b : Int) (r : Int × Int × Int × Int), chunk_sweep_stable.l0 k n x y o a b = some r → r.2 = (o, a, b)
 | 0, _, _, _, _, _, h => by simp [chunk_sweep_stable.l0] at h
 | k + 1, n, o, a, b, r, h => by
  simp only [chunk_sweep_stable.l0] at h
  obtain ⟨t, ht, h2⟩ := Option.bind_eq_some_iff.1 h
  clear h
  have e := together_state ht
  obtain ⟨t0, t1, t2, t3⟩ := t
  simp only [Prod.mk.injEq] at e
  obtain ⟨rfl, rfl, rfl⟩ := e
  split at h2
  ·exact stable_state_l k _ _ _ _ _ h2
  ·obtain rfl := Option.some.inj h2; rfl
theorem next_state_l {x y : List Int} : ∀ (k : Nat) (n o a b : Int) (r : Int × Int × Int × Int), chunk_sweep_next.l0 k n x y o a b = some r → r.2 = (o, a, b)
 | 0, _, _, _, _, _, h => by simp [chunk_sweep_next.l0] at h
 | k + 1, n, o, a, b, r, h => by
  simp only [chunk_sweep_next.l0] at h
  repeat' split at h
  all_goals first | exact next_state_l k _ _ _ _ _ h | (obtain rfl := Option.some.inj h; rfl) | cases h
def stepO (k : Nat) (x y : List Int) (base left right o a b : Int) : Option (Int × Int × Int × Int) :=
 (chunk_sweep_stable.f k x y o a b).bind fun t => if t.1 = 0 then ((chunk_sweep_next.f k x y o a b).bind fun s => if s.1 < base then (if 0 ≤ s.1 ∧ s.1 < x.length ∧ s.1 < y.length then some (t.1, s.1, rd x s.1, rd y s.1) else none) else some (t.1, base, left, right)) else some (t.1, wrap64 (o + t.1), wrap64 (a + t.1), wrap64 (b + t.1))
def chunkC (n o a b o' a' b' : Int) : SC := ⟨decide (0 < n), ⟨o, o'⟩, ⟨a, a'⟩, ⟨b, b'⟩⟩
def ofL (x y : List Int) (base left right : Int) : Nat → Int → Int → Int → List SC → Option (List SC)
 | 0, _, _, _, _ => none
 | k + 1, o, a, b, out => if o < base ∨ a < left ∨ b < right then (stepO k x y base left right o a b).bind fun s => if out.length ≤ 1000000000000 then ofL x y base left right k s.2.1 s.2.2.1 s.2.2.2 (out ++ [chunkC s.1 o a b s.2.1 s.2.2.1 s.2.2.2]) else none else some out
def ofF (k : Nat) (base left right : Int) (l r : List S196) : Option (List SC × Int) :=
 (chunk_table.f k base left l).bind fun x => (chunk_table.f k base right r).bind fun y => if x.2 = true ∧ y.2 = true then (ofL x.1 y.1 base left right k 0 0 0 []).bind fun out => some (out, 0) else some ([], 12)
theorem stepO_mono (x y : List Int) (base left right o a b : Int) (k : Nat) : LeO (stepO k x y base left right o a b) (stepO (k + 1) x y base left right o a b) := by
 unfold stepO
 exact LeO.bind (chunk_sweep_stable.mono _ _ _ _ _ k) (fun t => LeO.ite (LeO.bind (chunk_sweep_next.mono _ _ _ _ _ k) (fun s => LeO.refl _)) (LeO.refl _))
theorem ofL_mono (x y : List Int) (base left right : Int) : ∀ (k : Nat) (o a b : Int) (out : List SC), LeO (ofL x y base left right k o a b out) (ofL x y base left right (k + 1) o a b out)
 | 0, _, _, _, _ => LeO.none _
 | k + 1, o, a, b, out => by
  show LeO (if o < base ∨ a < left ∨ b < right then _ else _) (if o < base ∨ a < left ∨ b < right then _ else _)
  exact LeO.ite (LeO.bind (stepO_mono x y base left right o a b k) (fun s => LeO.ite (ofL_mono x y base left right k _ _ _ _) (LeO.refl _))) (LeO.refl _)
theorem of_mono : ∀ base left right l r k, LeO (ofF k base left right l r) (ofF (k + 1) base left right l r) := fun base left right l r k => by
 unfold ofF
 exact LeO.bind (chunk_table.mono _ _ _ k) (fun x => LeO.bind (chunk_table.mono _ _ _ k) (fun y => LeO.ite (LeO.bind (ofL_mono _ _ _ _ _ k _ _ _ _) (fun _ => LeO.refl _)) (LeO.refl _)))
theorem IsS173.cell2 {w0 W : World} {g : Nat} {f0 f1 : List Int} {f2 f3 f4 : Int} (h : IsS173 w0 W g f0 f1 f2 f3 f4) : W.cell? ⟨g, 2, none⟩ = some (.int .i64 f2) := by obtain ⟨_, _, _, _, hb, _⟩ := h; exact (blk_cell hb 2).trans rfl
theorem IsS173.cell3 {w0 W : World} {g : Nat} {f0 f1 : List Int} {f2 f3 f4 : Int} (h : IsS173 w0 W g f0 f1 f2 f3 f4) : W.cell? ⟨g, 3, none⟩ = some (.int .i64 f3) := by obtain ⟨_, _, _, _, hb, _⟩ := h; exact (blk_cell hb 3).trans rfl
theorem IsS173.cell4 {w0 W : World} {g : Nat} {f0 f1 : List Int} {f2 f3 f4 : Int} (h : IsS173 w0 W g f0 f1 f2 f3 f4) : W.cell? ⟨g, 4, none⟩ = some (.int .i64 f4) := by obtain ⟨_, _, _, _, hb, _⟩ := h; exact (blk_cell hb 4).trans rfl
theorem IsS173.froz {w0 W : World} {g : Nat} {f0 f1 : List Int} {f2 f3 f4 : Int} (h : IsS173 w0 W g f0 f1 f2 f3 f4) (j : Nat) : W.frozen? ⟨g, j, none⟩ = false := by obtain ⟨_, _, _, _, hb, _⟩ := h; exact Lib.frozen_of_heap hb j
theorem chunk_info : (Try.prog.info? 91).map (fun i => (i.zero, i.size, i.bytes)) = some (some (.agg #[.bool false, .int .i64 0, .int .i64 0, .int .i64 0, .int .i64 0, .int .i64 0, .int .i64 0]), 7, 56) := by kernel_rfl
set_option maxHeartbeats 8000000 in
set_option maxRecDepth 100000 in
theorem of_bad (k : Nat) (base left right : Int) (A3 : Option Addr) (c3 : Nat) (l : List S196) (A4 : Option Addr) (c4 : Nat) (r : List S196) (w : World) (hr3 : Kd.C k196 w A3 l.length l) (hc3 : l.length ≤ c3) (hr4 : Kd.C k196 w A4 r.length r) (hc4 : r.length ≤ c4)
  (x y : List Int) (xb yb : Bool) (hx : chunk_table.f k base left l = some (x, xb)) (hy : chunk_table.f k base right r = some (y, yb)) (hb : ¬ (xb = true ∧ yb = true)) :
  Calls Try.prog 103 #[.int .i64 base, .int .i64 left, .int .i64 right, .slice A3 l.length c3, .slice A4 r.length c4] w fun e w' => ∃ v0, e = .returned (.tuple #[v0, .int .i64 12]) ∧ Kd.R k91 91 w' w.heap.size (fun _ => True) v0 [] ∧ Below w.heap.size w w' := by
 have H3 := Aside0.mk (fun W (hb : Below w.heap.size w W) => chunk_table.calls k base left A3 c3 l x xb W (Kd.C_below hr3 hb) hc3 hx)
 have H4 := Aside0.mk (fun W (hb : Below w.heap.size w W) => chunk_table.calls k base right A4 c4 r y yb W (Kd.C_below hr4 hb) hc4 hy)
 have tk1 : True := trivial
 clear hr3 hr4 hx hy
 cases xb <;> cases yb
 case true.true => exact absurd ⟨rfl, rfl⟩ hb
 all_goals
  clear hb
  go_enter Try.func103, Try.ntmps103
  go_wp2_with (first
   | (go_at_call 133; have _t := tk1; (with_reducible refine (H3.out _ (Below.refl _ _)).mono ?_); rintro e w1 ⟨v1, rfl, hR1, hb1⟩; clear tk1; obtain ⟨Ax, cx, rfl, _, hCx⟩ := Kd.R_reads hR1; have HB1 := Aside0.mk hb1; clear hb1 hR1 hCx)
   | (go_at_call 133; have _t := HB1; (with_reducible refine (H4.out _ HB1.out).mono ?_); rintro e w2 ⟨v2, rfl, hR2, hb2⟩; obtain ⟨Ay, cy, rfl, _, hCy⟩ := Kd.R_reads hR2; have HB2 := Aside0.mk (below_step HB1.out hb2); clear hb2 hR2 hCy))
  go_ret2
  exact ⟨_, rfl, Kd.R_nil _ _ _ _ _, HB2.out⟩
set_option maxHeartbeats 8000000 in
set_option maxRecDepth 100000 in
theorem of_good (k : Nat) (base left right : Int) (A3 : Option Addr) (c3 : Nat) (l : List S196) (A4 : Option Addr) (c4 : Nat) (r : List S196) (w : World) (hr3 : Kd.C k196 w A3 l.length l) (hc3 : l.length ≤ c3) (hr4 : Kd.C k196 w A4 r.length r) (hc4 : r.length ≤ c4)
  (x y : List Int) (res : List SC) (hx : chunk_table.f k base left l = some (x, true)) (hy : chunk_table.f k base right r = some (y, true)) (ho : ofL x y base left right k 0 0 0 [] = some res) :
  Calls Try.prog 103 #[.int .i64 base, .int .i64 left, .int .i64 right, .slice A3 l.length c3, .slice A4 r.length c4] w fun e w' => ∃ v0, e = .returned (.tuple #[v0, .int .i64 0]) ∧ Kd.R k91 91 w' w.heap.size (fun _ => True) v0 res ∧ Below w.heap.size w w' := by
 have H3 := Aside0.mk (fun W (hb : Below w.heap.size w W) => chunk_table.calls k base left A3 c3 l x true W (Kd.C_below hr3 hb) hc3 hx)
 have H4 := Aside0.mk (fun W (hb : Below w.heap.size w W) => chunk_table.calls k base right A4 c4 r y true W (Kd.C_below hr4 hb) hc4 hy)
 have HO := Aside0.mk ho
 have tk1 : True := trivial
 clear hr3 hr4 hx hy ho
 go_enter Try.func103, Try.ntmps103
 go_wp2_with (first
  | (go_at_call 133; have _t := tk1; (with_reducible refine (H3.out _ (Below.refl _ _)).mono ?_); rintro e w1 ⟨v1, rfl, hR1, hb1⟩; clear tk1; obtain ⟨Ax, cx, rfl, _, hCx⟩ := Kd.R_reads hR1; have HB1 := Aside0.mk hb1; have HX := Aside0.mk hCx; clear hb1 hR1 hCx)
  | (go_at_call 133; have _t := HB1; (with_reducible refine (H4.out _ HB1.out).mono ?_); rintro e w2 ⟨v2, rfl, hR2, hb2⟩; obtain ⟨Ay, cy, rfl, _, hCy⟩ := Kd.R_reads hR2; have HB2 := Aside0.mk (below_step HB1.out hb2); have HX2 := Aside0.mk (Kd.C_below HX.out hb2); have HY2 := Aside0.mk hCy; clear hb2 hR2 hCy))
 have HI := Aside0.mk (IsS173.new w2 w2 Ax cx Ay cy x y 0 0 0 (Below.refl _ _) HX2.out HY2.out)
 have HW := Aside0.mk (below_alloc (Below.refl w2.heap.size w2) (.cells #[.slice Ax x.length cx, .slice Ay y.length cy, .int .i64 0, .int .i64 0, .int .i64 0] 173))
 clear H3 H4 HB1 HX
 obtain ⟨g, hg⟩ : ∃ g, g = w2.heap.size := ⟨_, rfl⟩
 rw [← hg] at HI ⊢
 generalize (w2.alloc (.cells #[.slice Ax x.length cx, .slice Ay y.length cy, .int .i64 0, .int .i64 0, .int .i64 0] 173)) = W0 at *
 clear hg
 go_loopg [17] k (fun gg s17 wr => ∃ (kk : Nat) (o a b : Int) (out : List SC), kk ≤ gg ∧ Aside0 (ofL x y base left right kk o a b out = some res) ∧ Aside0 (IsS173 w2 wr g x y o a b) ∧ Aside0 (Kd.R k91 91 wr w2.heap.size (fun j => j ≠ g) s17 out) ∧ Aside0 (Below w2.heap.size w2 wr))
 case atStart => exact ⟨k, 0, 0, 0, [], Nat.le_refl _, HO, HI, ⟨Kd.R_nil _ _ _ _ _⟩, HW⟩
 case round =>
  clear HO HI HW
  obtain ⟨kk, o, a, b, out, hkk, HO, HI, HR, HW⟩ := hrel
  obtain ⟨k1, rfl⟩ : ∃ k1, kk = k1 + 1 := by
   cases kk with
   | zero => exact absurd HO.out (by simp [ofL])
   | succ k1 => exact ⟨k1, rfl⟩
  have ho := HO.out
  simp only [ofL] at ho
  obtain ⟨ASz, cSz, ASy, cSy, HG, hge, HSx, HSy⟩ := HI.out
  have p2 := (blk_cell HG 2).trans (rfl : _ = some (Value.int .i64 o))
  have p3 := (blk_cell HG 3).trans (rfl : _ = some (Value.int .i64 a))
  have p4 := (blk_cell HG 4).trans (rfl : _ = some (Value.int .i64 b))
  clear HG hge HSx HSy
  by_cases hcond : o < base ∨ a < left ∨ b < right
  ·rw [if_pos hcond] at ho
   obtain ⟨⟨n, o', a', b'⟩, hstep, ho1⟩ := Option.bind_eq_some_iff.1 ho
   clear ho
   simp only at ho1
   split at ho1
   case isFalse => cases ho1
   case isTrue hlen =>
   have HO2 := Aside0.mk ho1
   have HSTEP := Aside0.mk hstep
   clear ho1 hstep HO
   have hd : (decide (o < base) = true) ∨ (decide (o < base) = false ∧ decide (a < left) = true) ∨ (decide (o < base) = false ∧ decide (a < left) = false ∧ decide (b < right) = true) := by
    by_cases h1 : o < base
    ·exact .inl (decide_eq_true h1)
    ·by_cases h2 : a < left
     ·exact .inr (.inl ⟨decide_eq_false h1, decide_eq_true h2⟩)
     ·exact .inr (.inr ⟨decide_eq_false h1, decide_eq_false h2, decide_eq_true (by omega)⟩)
   have hst := HSTEP.out
   unfold stepO at hst
   obtain ⟨⟨n0, o0, a0, b0⟩, hs1, hst1⟩ := Option.bind_eq_some_iff.1 hst
   clear hst
   have e0 := stable_state_l _ _ _ _ _ _ hs1
   simp only [Prod.mk.injEq] at e0 hst1
   obtain ⟨rfl, rfl, rfl⟩ := e0
   have HS1 := Aside0.mk hs1
   have HST := Aside0.mk hst1
   clear hs1 hst1 HSTEP hcond
   have hR0 := HR.out
   obtain ⟨Av, cv, rfl⟩ := Kd.R_slice hR0
   clear hR0
   rcases hd with d1 | ⟨d1, d2⟩ | ⟨d1, d2, d3⟩
   all_goals
    go_wp2_with (first
     | (go_at_call 134; refine (chunk_sweep_stable.calls k1 g x y o0 a0 b0 n0 o0 a0 b0 w2 _ HI.out HW.out HS1.out).mono ?_; rintro e w3 ⟨rfl, hi3, hb3, hk3⟩; have HI3 := Aside0.mk hi3; have HW3 := Aside0.mk hb3; have HR3 := Aside0.mk (Kd.R_keep HR.out hk3 (fun _ h => h)); clear hi3 hb3 hk3 p2 p3 p4))
    clear HI HW HR
    obtain ⟨ASz, cSz, ASy, cSy, HG, hge, HSx, HSy⟩ := HI3.out
    have p2 := (blk_cell HG 2).trans (rfl : _ = some (Value.int .i64 o0))
    have p3 := (blk_cell HG 3).trans (rfl : _ = some (Value.int .i64 a0))
    have p4 := (blk_cell HG 4).trans (rfl : _ = some (Value.int .i64 b0))
    clear HG hge HSx HSy
    go_quiet (fail)
    have HI4 := Aside0.mk (HI3.out.drewN nq)
    have HW4 := Aside0.mk (pw_below_drewN HW3.out nq)
    have HR4 := Aside0.mk (Kd.R_drewN HR3.out nq)
    clear HI3 HW3 HR3 p2 p3 p4
    generalize w3.drewN nq = w4 at *
    go_upto_if 90 with fail
    go_cut [19, 20, 21] (fun v19 v20 v21 wc => v19 = .int .i64 o' ∧ v20 = .int .i64 a' ∧ v21 = .int .i64 b' ∧ Aside0 (n = n0) ∧ Aside0 (IsS173 w2 wc g x y o0 a0 b0) ∧ Aside0 (Below w2.heap.size w2 wc) ∧ Aside0 (Kd.R k91 91 wc w2.heap.size (fun j => j ≠ g) (.slice Av out.length cv) out))
    case first =>
     have hst := HST.out
     clear HST
     by_cases hn : n0 = 0
     ·rw [if_pos hn] at hst
      obtain ⟨⟨s0, s1, s2, s3⟩, hs, hst2⟩ := Option.bind_eq_some_iff.1 hst
      clear hst
      have e1 := next_state_l _ _ _ _ _ _ hs
      simp only [Prod.mk.injEq] at e1 hst2
      obtain ⟨rfl, rfl, rfl⟩ := e1
      have HN := Aside0.mk hs
      have q1 : (n0 == (0 : Int)) = true := by rw [hn]; rfl
      clear hs hn
      by_cases hb : s0 < base
      ·have q2 : decide (s0 < base) = true := decide_eq_true hb
       rw [if_pos hb] at hst2
       split at hst2
       case isFalse => cases hst2
       case isTrue hgd =>
       simp only [Option.some.injEq, Prod.mk.injEq] at hst2
       obtain ⟨rfl, rfl, rfl, rfl⟩ := hst2
       go_wp2_with (first
        | (go_at_call 135; refine (chunk_sweep_next.calls k1 g x y s1 s2 s3 s0 s1 s2 s3 w2 _ HI4.out HW4.out HN.out).mono ?_; rintro e w5 ⟨rfl, hi5, hb5, hk5⟩; have HI5 := Aside0.mk hi5; have HW5 := Aside0.mk hb5; have HR5 := Aside0.mk (Kd.R_keep HR4.out hk5 (fun _ h => h)); clear hi5 hb5 hk5))
       obtain ⟨ax, ex, cx0⟩ := Kd.at_int HX2.out s0 hgd.1 hgd.2.1
       obtain ⟨ay, ey, cy0⟩ := Kd.at_int HY2.out s0 hgd.1 hgd.2.2
       subst ex ey
       replace cx0 := pw_cell_below HW5.out cx0
       replace cy0 := pw_cell_below HW5.out cy0
       have z0 := hgd.1
       have z1 := hgd.2.1
       have z2 := hgd.2.2
       go_quiet (fail)
       go_wp2
       go_meet
       case rel => exact ⟨rfl, rfl, rfl, ⟨by first | rfl | trivial⟩, ⟨HI5.out.drewN nq⟩, ⟨pw_below_drewN HW5.out nq⟩, ⟨Kd.R_drewN HR5.out nq⟩⟩
      ·have q2 : decide (s0 < base) = false := decide_eq_false hb
       rw [if_neg hb] at hst2
       simp only [Option.some.injEq, Prod.mk.injEq] at hst2
       obtain ⟨rfl, rfl, rfl, rfl⟩ := hst2
       go_wp2_with (first
        | (go_at_call 135; refine (chunk_sweep_next.calls k1 g x y s1 s2 s3 s0 s1 s2 s3 w2 _ HI4.out HW4.out HN.out).mono ?_; rintro e w5 ⟨rfl, hi5, hb5, hk5⟩; have HI5 := Aside0.mk hi5; have HW5 := Aside0.mk hb5; have HR5 := Aside0.mk (Kd.R_keep HR4.out hk5 (fun _ h => h)); clear hi5 hb5 hk5))
       go_meet
       case rel => exact ⟨rfl, rfl, rfl, ⟨by first | rfl | trivial⟩, HI5, HW5, HR5⟩
     ·rw [if_neg hn] at hst
      simp only [Option.some.injEq, Prod.mk.injEq] at hst
      obtain ⟨rfl, rfl, rfl, rfl⟩ := hst
      have q1 : (n0 == (0 : Int)) = false := beq_eq_false_iff_ne.2 hn
      clear hn
      go_wp2
      go_meet
      case rel => exact ⟨rfl, rfl, rfl, ⟨by first | rfl | trivial⟩, HI4, HW4, HR4⟩
    case rest =>
     obtain ⟨rfl, rfl, rfl, hnn, HI5, HW5, HR5⟩ := hcut
     obtain rfl := hnn.out
     clear HI4 HW4 HR4 hnn HX2 HY2
     obtain ⟨ASz, cSz, ASy, cSy, HG, hge, HSx, HSy⟩ := HI5.out
     have p2 := (blk_cell HG 2).trans (rfl : _ = some (Value.int .i64 o0))
     have p3 := (blk_cell HG 3).trans (rfl : _ = some (Value.int .i64 a0))
     have p4 := (blk_cell HG 4).trans (rfl : _ = some (Value.int .i64 b0))
     have HFr : Aside0 (∀ j, wc.heap.size ≤ j → j ≠ g) := ⟨fun j hj e => by have := (Array.getElem?_eq_some_iff.1 HG).1; omega⟩
     have HGE := Aside0.mk hge
     have HLE := Aside0.mk HW5.out.size
     clear HG hge HSx HSy HST HS1
     go_wp2
     go_region_held3 (fun w' => w'.cell? ⟨g, 2, none⟩ = some (.int .i64 o0) ∧ w'.cell? ⟨g, 3, none⟩ = some (.int .i64 a0) ∧ w'.cell? ⟨g, 4, none⟩ = some (.int .i64 b0))
      (first | go_keep | exact ⟨HI6.out.cell2, HI6.out.cell3, HI6.out.cell4⟩)
      ((refine Kd.R_append_step k91 (w0 := w2) (W := wc.drew) w2.heap.size (by rfl) (.tmp 108) (.tmp 130) 78 91 (.agg #[.bool false, .int .i64 0, .int .i64 0, .int .i64 0, .int .i64 0, .int .i64 0, .int .i64 0]) 56 (by rfl) Try.underlying78 chunk_info rfl (by decide) (by omega) (.slice Av out.length cv) out (chunkC n o0 a0 b0 o' a' b') [.bool (decide (0 < n)), .int .i64 o0, .int .i64 o', .int .i64 a0, .int .i64 a', .int .i64 b0, .int .i64 b'] (fun j => j ≠ g) (fun _ => False) (by rfl) (by rfl) (k91_mkM _ _ _ _) (fun _ hk => hk.elim) HFr.out (Kd.R_drew HR5.out) (below_drew HW5.out) HLE.out (by omega) ?_; intro v1 w6 ho6 hb6 hg6 hat6; obtain ⟨Aw, cw, rfl⟩ := Kd.R_slice ho6; have HI6 := Aside0.mk (IsS173.grown (HI5.out.drew) hg6 (fun e => HR5.out.1 g e.symm rfl)); have HR6 := Aside0.mk ho6; have HW6 := Aside0.mk hb6; have z2 := HI6.out.cell2; have z3 := HI6.out.cell3; have z4 := HI6.out.cell4; have y2 := HI6.out.froz 2; have y3 := HI6.out.froz 3; have y4 := HI6.out.froz 4; clear ho6 hb6 hg6 hat6))
     go_wp2
     go_roundg k1
     case measure => omega
     case rel =>
      refine ⟨k1, o', a', b', out ++ [chunkC n o0 a0 b0 o' a' b'], Nat.le_refl _, HO2, ⟨((HI6.out.set_2 o').set_3 a').set_4 b'⟩, ⟨?_⟩, ⟨((HW6.out.setCell (p := ⟨g, 2, none⟩) HGE.out _).setCell (p := ⟨g, 3, none⟩) HGE.out _).setCell (p := ⟨g, 4, none⟩) HGE.out _⟩⟩
      rw [show out.length + 1 = (out ++ [chunkC n o0 a0 b0 o' a' b']).length by simp only [List.length_append, List.length_singleton]]
      exact Kd.R_far (Kd.R_far (Kd.R_far HR6.out (p := ⟨g, 2, none⟩) (fun _ h => h) _) (p := ⟨g, 3, none⟩) (fun _ h => h) _) (p := ⟨g, 4, none⟩) (fun _ h => h) _
  ·rw [if_neg hcond] at ho
   obtain rfl := Option.some.inj ho
   have d1 : decide (o < base) = false := decide_eq_false (by omega)
   have d2 : decide (a < left) = false := decide_eq_false (by omega)
   have d3 : decide (b < right) = false := decide_eq_false (by omega)
   obtain ⟨Av, cv, rfl⟩ := Kd.R_slice HR.out
   clear ho hcond HO
   go_wp2
   go_ret2
   exact ⟨_, rfl, Kd.R_mono (Kd.R_lower HR.out HB2.out.size) (fun _ _ => trivial), Below.trans HB2.out (HW.out.mono HB2.out.size)⟩
theorem of_calls (k : Nat) (base left right : Int) (A3 : Option Addr) (c3 : Nat) (l : List S196) (A4 : Option Addr) (c4 : Nat) (r : List S196) (r1 : List SC) (r2 : Int) (w : World) (hr3 : Kd.C k196 w A3 l.length l) (hc3 : l.length ≤ c3) (hr4 : Kd.C k196 w A4 r.length r) (hc4 : r.length ≤ c4) (h : ofF k base left right l r = some (r1, r2)) :
  Calls Try.prog 103 #[.int .i64 base, .int .i64 left, .int .i64 right, .slice A3 l.length c3, .slice A4 r.length c4] w fun e w' => ∃ v0, e = .returned (.tuple #[v0, .int .i64 r2]) ∧ Kd.R k91 91 w' w.heap.size (fun _ => True) v0 r1 ∧ Below w.heap.size w w' := by
 unfold ofF at h
 obtain ⟨⟨x, xb⟩, hx, h1⟩ := Option.bind_eq_some_iff.1 h
 obtain ⟨⟨y, yb⟩, hy, h2⟩ := Option.bind_eq_some_iff.1 h1
 simp only at h2
 split at h2
 ·rename_i hb
  obtain ⟨rfl, rfl⟩ := hb
  obtain ⟨out, ho, h3⟩ := Option.bind_eq_some_iff.1 h2
  simp only [Option.some.injEq, Prod.mk.injEq] at h3
  obtain ⟨rfl, rfl⟩ := h3
  exact of_good k base left right A3 c3 l A4 c4 r w hr3 hc3 hr4 hc4 x y out hx hy ho
 ·rename_i hb
  simp only [Option.some.injEq, Prod.mk.injEq] at h2
  obtain ⟨rfl, rfl⟩ := h2
  exact of_bad k base left right A3 c3 l A4 c4 r w hr3 hc3 hr4 hc4 x y xb yb hx hy hb
end Go.Proofs.Ytfiamddinkokbaa.F
end

section
set_option linter.unusedVariables false
set_option linter.unusedSimpArgs false
namespace Go.Proofs.Ytfiamddinkokbaa.F
open Go.RowKit Go.Shelf Go.Proofs.YtfiamddinkokbaaW.PrintWords
set_option linter.unusedVariables false
set_option linter.unusedSimpArgs false
set_option maxHeartbeats 4000000 in
set_option maxRecDepth 100000 in
theorem back_calls {B f bf c : Nat} {A C : Option Addr} {ca cb : Nat} {a b : List Int} {l : List SP} {far : List Int} {w : World} (a0 a1 b0 b1 off k d : Int) (xs ys : List Int)
  (hF : Fin B f (.slice A a.length ca) (.slice C b.length cb) l w) (hA : Kd.C (Kd.int .i64) w A a.length a) (hC : Kd.C (Kd.int .i64) w C b.length b) (hR : Row B bf c far w)
  (ha0 : 0 ≤ a0) (ha1 : a0 ≤ a1) (ha2 : a1 ≤ a.length) (hb0 : 0 ≤ b0) (hb1 : b0 ≤ b1) (hb2 : b1 ≤ b.length) (hla : a.length ≤ 4000000000) (hlb : b.length ≤ 4000000000)
  (hd0 : 0 ≤ d) (hd1 : d ≤ 20000000000) (hk1 : -d ≤ k) (hk2 : k ≤ d) (ho : d + 1 ≤ off) (ho1 : off ≤ 20000000000) (hlf : off + d + 1 < far.length) (hfb : ∀ x ∈ far, -1 ≤ x ∧ x ≤ 100000000000)
  (hxl : (xs.length : Int) = a1 - a0) (hyl : (ys.length : Int) = b1 - b0) (hx : ∀ u : Int, 0 ≤ u → u < a1 - a0 → rd a (a1 - 1 - u) = rd xs u) (hy : ∀ u : Int, 0 ≤ u → u < b1 - b0 → rd b (b1 - 1 - u) = rd ys u)
  (hu0 : 0 ≤ beginI far off k d) (hu1 : k ≤ beginI far off k d) (hu2 : beginI far off k d ≤ 100000000000) :
  Calls Try.prog 171 #[.pointer (some ⟨f, 0, none⟩), .agg #[.int .i64 a0, .int .i64 a1, .int .i64 b0, .int .i64 b1], .agg #[.slice (some ⟨bf, 0, none⟩) far.length c, .int .i64 off], .int .i64 k, .int .i64 d] w
   (Went bf (off + k) (beginI far off k d) (slideI xs ys k (beginI far off k d)) w) := by
 have hrl := Kd.R_reads' hR
 have HRC := Aside0.mk hrl.2.2
 have HRL := Aside0.mk hrl.2.1
 have HBeg := Aside0.mk (begin_f far off k d hd0 hd1 hk1 hk2 ho ho1 hlf hfb)
 have HF := Aside0.mk hF
 have HA := Aside0.mk hA
 have HC := Aside0.mk hC
 have HR := Aside0.mk hR
 have HX := Aside0.mk hx
 have HY := Aside0.mk hy
 have HXL := Aside0.mk hxl
 have HYL := Aside0.mk hyl
 have HLF := Aside0.mk hlf
 clear hF hA hC hR hx hy hfb hxl hyl hrl hlf
 generalize beginI far off k d = u0 at *
 go_enter Try.func171, Try.ntmps171
 go_wp2_with (first | (go_at_call 173; with_reducible refine (lcs_run_begin.calls _ _ far off k d u0 _ (Kd.C_alloc (Kd.C_alloc HRC.out _) _) HRL.out HBeg.out).mono ?_; rintro e W1 ⟨rfl, hb1⟩; have h2b := two_boxes hb1; clear hb1))
 obtain ⟨hb1, hx6, hx7⟩ := h2b
 have HB1 := Aside0.mk hb1
 have p0 := (blk_cell hx6 0).trans (rfl : _ = some (Value.int .i64 a0))
 have p1 := (blk_cell hx6 1).trans (rfl : _ = some (Value.int .i64 a1))
 have p2 := (blk_cell hx6 2).trans (rfl : _ = some (Value.int .i64 b0))
 have p3 := (blk_cell hx6 3).trans (rfl : _ = some (Value.int .i64 b1))
 have r0 := (blk_cell hx7 0).trans (rfl : _ = some (Value.slice (some ⟨bf, 0, none⟩) far.length c))
 have r1 := (blk_cell hx7 1).trans (rfl : _ = some (Value.int .i64 off))
 have q0 := (HF.out.below hb1).c0
 have q1 := (HF.out.below hb1).c1
 have hst := Kd.R_cell (0 : Int) (Kd.R_below HR.out hb1) (off + k) (by omega) (by have := HLF.out; omega)
 have st1 := hst.1
 have st2 := hst.2
 have st3 : 0 ≤ off + k := by omega
 have st4 : off + k < (far.length : Int) := by have := HLF.out; omega
 clear hb1 hx6 hx7 hst
 go_loopg [12] (a1 - a0).toNat (fun gg s12 wr => ∃ (u : Int) (m : Nat), s12 = .int .i64 u ∧ wr = W1.drewN m ∧ 0 ≤ u ∧ k ≤ u ∧ u ≤ 100000000000 ∧ Aside0 (slideI xs ys k u = slideI xs ys k u0) ∧ Aside0 ((a1 - a0 - u).toNat ≤ gg))
 case atStart => exact ⟨u0, 0, rfl, rfl, hu0, hu1, hu2, ⟨rfl⟩, ⟨by omega⟩⟩
 case round =>
  obtain ⟨u, m, rfl, rfl, hv0, hv1, hv2, HS, HM⟩ := hrel
  by_cases h1 : u < a1 - a0
  ·have h1b : decide (u < a1 - a0) = true := decide_eq_true h1
   by_cases h2 : u - k < b1 - b0
   ·have h2b : decide (u - k < b1 - b0) = true := decide_eq_true h2
    obtain ⟨ad, e1, hx1⟩ := C_int_at (Kd.C_below HA.out HB1.out) (a1 - 1 - u) (by omega) (by omega)
    subst e1
    obtain ⟨bd, e2, hx2⟩ := C_int_at (Kd.C_below HC.out HB1.out) (b1 - 1 - (u - k)) (by omega) (by omega)
    subst e2
    have i1 : 0 ≤ a1 - 1 - u := by omega
    have i2 : a1 - 1 - u < (a.length : Int) := by omega
    have i3 : 0 ≤ b1 - 1 - (u - k) := by omega
    have i4 : b1 - 1 - (u - k) < (b.length : Int) := by omega
    have hxu := HX.out u hv0 h1
    have hyu := HY.out (u - k) (by omega) h2
    by_cases h3 : rd a (a1 - 1 - u) = rd b (b1 - 1 - (u - k))
    ·have h3b : (rd a (a1 - 1 - u) == rd b (b1 - 1 - (u - k))) = true := beq_iff_eq.2 h3
     have H3 : Aside0 (slideI xs ys k (u + 1) = slideI xs ys k u0) := ⟨by rw [← slideI_on (by have := HXL.out; omega) (by have := HYL.out; omega) (by rw [← hxu, ← hyu]; exact h3)]; exact HS.out⟩
     clear h3 hxu hyu
     go_wp2
     go_quiet (fail)
     go_wp2
     go_roundg ((a1 - a0 - (u + 1)).toNat)
     case measure => have := HM.out; omega
     case rel => exact ⟨u + 1, m + nq, by go_num, rfl, by omega, by omega, by omega, H3, ⟨Nat.le_refl _⟩⟩
    ·have h3b : (rd a (a1 - 1 - u) == rd b (b1 - 1 - (u - k))) = false := by simpa using h3
     have H3 := Aside0.mk (show slideI xs ys k u0 = u by rw [← HS.out]; exact slideI_off (by rw [← hxu, ← hyu]; exact fun h => h3 h.2.2))
     clear h3 hxu hyu
     go_wp2
     go_quiet (fail)
     go_wp2
     go_ret2
     rw [H3.out]
     exact ⟨rfl, W1.drewN (m + nq), pw_below_drewN HB1.out _, rfl⟩
   ·have h2b : decide (u - k < b1 - b0) = false := decide_eq_false h2
    have H3 := Aside0.mk (show slideI xs ys k u0 = u by rw [← HS.out]; exact slideI_off (fun h => h2 (by have := HYL.out; omega)))
    go_wp2
    go_quiet (fail)
    go_wp2
    go_ret2
    rw [H3.out]
    exact ⟨rfl, W1.drewN (m + nq), pw_below_drewN HB1.out _, rfl⟩
  ·have h1b : decide (u < a1 - a0) = false := decide_eq_false h1
   have H3 := Aside0.mk (show slideI xs ys k u0 = u by rw [← HS.out]; exact slideI_off (fun h => h1 (by have := HXL.out; omega)))
   go_wp2
   go_quiet (fail)
   go_wp2
   go_ret2
   rw [H3.out]
   exact ⟨rfl, W1.drewN (m + nq), pw_below_drewN HB1.out _, rfl⟩
end Go.Proofs.Ytfiamddinkokbaa.F
end

section
set_option linter.unusedVariables false
set_option linter.unusedSimpArgs false
namespace Go.Proofs.Ytfiamddinkokbaa.F
open Go.RowKit Go.Shelf Go.Proofs.YtfiamddinkokbaaW.PrintWords
set_option linter.unusedVariables false
set_option linter.unusedSimpArgs false
def boundB (l : List Int) : Bool := l.all (fun x => decide (-1 ≤ x) && decide (x ≤ 100000000000))
theorem boundB_out {l : List Int} (h : boundB l = true) : ∀ x ∈ l, -1 ≤ x ∧ x ≤ 100000000000 := by
 unfold boundB at h
 simpa only [Bool.and_eq_true, decide_eq_true_eq, List.all_eq_true] using h
theorem rd_bound {l : List Int} (h : ∀ x ∈ l, -1 ≤ x ∧ x ≤ 100000000000) (i : Int) : -1 ≤ rd l i ∧ rd l i ≤ 100000000000 := by
 unfold rd
 rw [List.getD_eq_getElem?_getD]
 by_cases hi : i.toNat < l.length
 ·rw [List.getElem?_eq_getElem hi]; exact h _ (List.getElem_mem hi)
 ·rw [List.getElem?_eq_none (by omega)]; simp
theorem rdOf_rd (l : List Int) (i : Int) : rdOf 0 l i = rd l i := rfl
def okFar (xs ys far other : List Int) (off k d : Int) : Bool := decide (0 ≤ beginI far off k d) && (decide (k ≤ beginI far off k d) && (decide (beginI far off k d ≤ 100000000000) && (boundB far && (boundB other &&
 (decide (beginI far off k d ≤ slideI xs ys k (beginI far off k d)) && decide (slideI xs ys k (beginI far off k d) ≤ 100000000000))))))
theorem okFar_out {xs ys far other : List Int} {off k d : Int} (h : okFar xs ys far other off k d = true) : 0 ≤ beginI far off k d ∧ k ≤ beginI far off k d ∧ beginI far off k d ≤ 100000000000 ∧ (∀ x ∈ far, -1 ≤ x ∧ x ≤ 100000000000) ∧ (∀ x ∈ other, -1 ≤ x ∧ x ≤ 100000000000) ∧
  beginI far off k d ≤ slideI xs ys k (beginI far off k d) ∧ slideI xs ys k (beginI far off k d) ≤ 100000000000 := by
 unfold okFar at h
 simp only [Bool.and_eq_true, decide_eq_true_eq] at h
 exact ⟨h.1, h.2.1, h.2.2.1, boundB_out h.2.2.2.1, boundB_out h.2.2.2.2.1, h.2.2.2.2.2.1, h.2.2.2.2.2.2⟩
def metB (par : Bool) (other : List Int) (off c lim n e : Int) : Bool := par && (decide (-lim ≤ c) && (decide (c ≤ lim) && (rd other (off + c) != -1 && decide (n ≤ e + rd other (off + c)))))
def frontF (xs ys other : List Int) (off delta n d lim : Int) (par : Bool) : Nat → Int → List Int → Option (List Int × Option (Int × Int × Int))
 | 0, _, far => some (far, none)
 | s + 1, k, far =>
  if okFar xs ys far other off k d = true then
   (if metB par other off (delta - k) lim n (slideI xs ys k (beginI far off k d)) = true then
    some (far.set (off + k).toNat (slideI xs ys k (beginI far off k d)), some (beginI far off k d, slideI xs ys k (beginI far off k d), k))
   else frontF xs ys other off delta n d lim par s (k + 2) (far.set (off + k).toNat (slideI xs ys k (beginI far off k d))))
  else none
def midK2 (n m : Int) (next : List Int → Option (Int × Int × Int)) : Option (List Int × Option (Int × Int × Int)) → Option (Int × Int × Int)
 | none => none
 | some (_, some (u, e, k)) => some (n - e, m - (e - k), e - u)
 | some (rear', none) => next rear'
def midK1 (next : List Int → Option (Int × Int × Int)) : Option (List Int × Option (Int × Int × Int)) → Option (Int × Int × Int)
 | none => none
 | some (_, some (u, e, k)) => some (u, u - k, e - u)
 | some (fore', none) => next fore'
def midF (xs ys : List Int) (off delta n m : Int) : Nat → Int → List Int → List Int → Option (Int × Int × Int)
 | 0, _, _, _ => none
 | s + 1, d, fore, rear =>
  midK1 (fun fore' => midK2 n m (fun rear' => midF xs ys off delta n m s (d + 1) fore' rear')
    (frontF xs.reverse ys.reverse fore' off delta n d d (delta.tmod 2 == 0) (d + 1).toNat (-d) rear))
   (frontF xs ys rear off delta n d (d - 1) (delta.tmod 2 != 0) (d + 1).toNat (-d) fore)
def middleF (xs ys : List Int) : Option (Int × Int × Int) :=
 midF xs ys ((xs.length + ys.length : Nat) + 1) ((xs.length : Int) - ys.length) xs.length ys.length (xs.length + ys.length + 1) 0 (newRow (xs.length + ys.length)) (newRow (xs.length + ys.length))
theorem metB_true {par : Bool} {other : List Int} {off c lim n e : Int} (h : metB par other off c lim n e = true) :
  par = true ∧ -lim ≤ c ∧ c ≤ lim ∧ (rd other (off + c) != -1) = true ∧ n ≤ e + rd other (off + c) := by
 unfold metB at h
 simp only [Bool.and_eq_true, decide_eq_true_eq] at h
 exact ⟨h.1, h.2.1, h.2.2.1, h.2.2.2.1, h.2.2.2.2⟩
theorem metB_false {par : Bool} {other : List Int} {off c lim n e : Int} (h : ¬ metB par other off c lim n e = true) :
  par = false ∨ (par = true ∧ decide (-lim ≤ c) = false) ∨ (par = true ∧ decide (-lim ≤ c) = true ∧ decide (c ≤ lim) = false) ∨
  (par = true ∧ decide (-lim ≤ c) = true ∧ decide (c ≤ lim) = true ∧ (rd other (off + c) != -1) = false) ∨
  (par = true ∧ decide (-lim ≤ c) = true ∧ decide (c ≤ lim) = true ∧ (rd other (off + c) != -1) = true ∧ decide (n ≤ e + rd other (off + c)) = false) := by
 unfold metB at h
 cases par with
 | false => exact .inl rfl
 | true =>
  right
  cases h1 : decide (-lim ≤ c) with
  | false => exact .inl ⟨rfl, rfl⟩
  | true =>
   right
   cases h2 : decide (c ≤ lim) with
   | false => exact .inl ⟨rfl, rfl, rfl⟩
   | true =>
    right
    cases h3 : rd other (off + c) != -1 with
    | false => exact .inl ⟨rfl, rfl, rfl, rfl⟩
    | true =>
     right
     cases h4 : decide (n ≤ e + rd other (off + c)) with
     | false => exact ⟨rfl, rfl, rfl, rfl, rfl⟩
     | true => exact absurd (by rw [h1, h2, h3, h4]; rfl) h
theorem rd_reverse (xs : List Int) (u : Int) (h0 : 0 ≤ u) (h1 : u < xs.length) : rd xs.reverse u = rd xs ((xs.length : Int) - 1 - u) := by
 unfold rd
 rw [List.getD_eq_getElem?_getD, List.getD_eq_getElem?_getD, List.getElem?_reverse (by omega), show xs.length - 1 - u.toNat = ((xs.length : Int) - 1 - u).toNat by omega]
end Go.Proofs.Ytfiamddinkokbaa.F
end

section
set_option linter.unusedVariables false
set_option linter.unusedSimpArgs false
namespace Go.Proofs.Ytfiamddinkokbaa.F
open Go.RowKit Go.Shelf Go.Proofs.YtfiamddinkokbaaW.PrintWords
set_option linter.unusedVariables false
set_option linter.unusedSimpArgs false
theorem newRun_at (x : Int) (N : Nat) (w : World) (hx : x = N) (h1 : N ≤ 8000000000) : Calls Try.prog 169 #[.int .i64 x] w fun e w' =>
  ∃ g c, e = .returned (.agg #[.slice (some ⟨g, 0, none⟩) (2 * N + 3) c, .int .i64 ((N : Int) + 1)]) ∧ w.heap.size ≤ g ∧ Row w.heap.size g c (newRow N) w' ∧ Below w.heap.size w w' := by
 subst hx
 refine (newRun_calls N w h1).mono ?_
 rintro e w' ⟨g, c, rfl, h⟩
 exact ⟨g, c, by rw [newRow_length], h⟩
structure Mid (w : World) (L n3 n4 n8 n9 bf cf br cr : Nat) (a0 a1 b0 b1 off : Int) (fore rear : List Int) (wr : World) : Prop where
 below : Below w.heap.size w wr
 x3 : wr.heap[n3]? = some (.cells #[.int .i64 a0, .int .i64 a1, .int .i64 b0, .int .i64 b1] 193 (0, 0))
 x4 : wr.heap[n4]? = some (.cells #[.int .i64 0, .int .i64 0, .int .i64 0, .int .i64 0] 209 (0, 0))
 x8 : wr.heap[n8]? = some (.cells #[.slice (some ⟨bf, 0, none⟩) L cf, .int .i64 off] 213 (0, 0))
 x9 : wr.heap[n9]? = some (.cells #[.slice (some ⟨br, 0, none⟩) L cr, .int .i64 off] 213 (0, 0))
 lf : fore.length = L
 lr : rear.length = L
 rf : Row w.heap.size bf cf fore wr
 rr : Row w.heap.size br cr rear wr
 ne : bf ≠ br
theorem mid_start {w w1 w2 : World} {N nq gf cf gr cr : Nat} {a0 a1 b0 b1 off : Int}
  (hb1 : Below (((w.alloc (.cells #[.int .i64 a0, .int .i64 a1, .int .i64 b0, .int .i64 b1] 193)).alloc (.cells #[.int .i64 0, .int .i64 0, .int .i64 0, .int .i64 0] 209)).drewN nq).heap.size
   (((w.alloc (.cells #[.int .i64 a0, .int .i64 a1, .int .i64 b0, .int .i64 b1] 193)).alloc (.cells #[.int .i64 0, .int .i64 0, .int .i64 0, .int .i64 0] 209)).drewN nq) w1)
  (hg1 : (((w.alloc (.cells #[.int .i64 a0, .int .i64 a1, .int .i64 b0, .int .i64 b1] 193)).alloc (.cells #[.int .i64 0, .int .i64 0, .int .i64 0, .int .i64 0] 209)).drewN nq).heap.size ≤ gf)
  (hrow1 : Row (((w.alloc (.cells #[.int .i64 a0, .int .i64 a1, .int .i64 b0, .int .i64 b1] 193)).alloc (.cells #[.int .i64 0, .int .i64 0, .int .i64 0, .int .i64 0] 209)).drewN nq).heap.size gf cf (newRow N) w1)
  (hb2 : Below w1.heap.size w1 w2) (hg2 : w1.heap.size ≤ gr) (hrow2 : Row w1.heap.size gr cr (newRow N) w2) :
  Mid w (2 * N + 3) w.heap.size (w.heap.size + 1) w2.heap.size (w2.heap.size + 1) gf cf gr cr a0 a1 b0 b1 off (newRow N) (newRow N)
   ((w2.alloc (.cells #[.slice (some ⟨gf, 0, none⟩) (2 * N + 3) cf, .int .i64 off] 213)).alloc (.cells #[.slice (some ⟨gr, 0, none⟩) (2 * N + 3) cr, .int .i64 off] 213)) := by
 have hs0 : (((w.alloc (.cells #[.int .i64 a0, .int .i64 a1, .int .i64 b0, .int .i64 b1] 193)).alloc (.cells #[.int .i64 0, .int .i64 0, .int .i64 0, .int .i64 0] 209)).drewN nq).heap.size = w.heap.size + 1 + 1 := by
  show ((w.alloc _).alloc _).heap.size = _
  rw [World.size_alloc, World.size_alloc]
 have hb1' : Below ((w.alloc (.cells #[.int .i64 a0, .int .i64 a1, .int .i64 b0, .int .i64 b1] 193)).alloc (.cells #[.int .i64 0, .int .i64 0, .int .i64 0, .int .i64 0] 209)).heap.size ((w.alloc (.cells #[.int .i64 a0, .int .i64 a1, .int .i64 b0, .int .i64 b1] 193)).alloc (.cells #[.int .i64 0, .int .i64 0, .int .i64 0, .int .i64 0] 209)) w1 :=
  ⟨hb1.os, hb1.tape, hb1.output, hb1.size, hb1.block⟩
 obtain ⟨q1, q2, q3⟩ := two_boxes hb1'
 have z1 : w1.heap.size ≤ w2.heap.size := hb2.size
 have z2 : gf < w1.heap.size := hrow1.lt
 have z3 : w.heap.size + 1 < w1.heap.size := by omega
 have hb3 : Below w2.heap.size w2 ((w2.alloc (.cells #[.slice (some ⟨gf, 0, none⟩) (2 * N + 3) cf, .int .i64 off] 213)).alloc (.cells #[.slice (some ⟨gr, 0, none⟩) (2 * N + 3) cr, .int .i64 off] 213)) := below_alloc (below_alloc (Below.refl _ _) _) _
 obtain ⟨_, q4, q5⟩ := two_boxes (w := w2) (Below.refl ((w2.alloc (.cells #[.slice (some ⟨gf, 0, none⟩) (2 * N + 3) cf, .int .i64 off] 213)).alloc (.cells #[.slice (some ⟨gr, 0, none⟩) (2 * N + 3) cr, .int .i64 off] 213)).heap.size _)
 exact ⟨below_step (below_step q1 hb2) hb3, (hb3.block _ (by omega)).trans ((hb2.block _ (by omega)).trans q2), (hb3.block _ (by omega)).trans ((hb2.block _ (by omega)).trans q3), q4, q5, newRow_length N, newRow_length N,
  ((hrow1.below hb2).below hb3).lower (by omega), (hrow2.below hb3).lower (by omega), by omega⟩
theorem type_ne {w : World} {i j : Nat} {cs cs' : Array Value} {t t' : TypeId} (h : w.heap[i]? = some (.cells cs t (0, 0))) (h' : w.heap[j]? = some (.cells cs' t' (0, 0))) (ht : t ≠ t') : i ≠ j := by
 intro e; subst e
 rw [h] at h'
 injection h' with h'
 injection h' with _ h' _
 exact ht h'
theorem Row.typed {B bf c : Nat} {fr : List Int} {w : World} (h : Row B bf c fr w) : ∃ cells, w.heap[bf]? = some (.cells cells 3 (0, 0)) := Kd.R_typed h bf rfl
theorem Mid.fore {w : World} {L n3 n4 n8 n9 bf cf br cr : Nat} {a0 a1 b0 b1 off : Int} {fore rear : List Int} {wr W1 : World} (h : Mid w L n3 n4 n8 n9 bf cf br cr a0 a1 b0 b1 off fore rear wr) (hb : Below wr.heap.size wr W1) (i e : Int) :
  Mid w L n3 n4 n8 n9 bf cf br cr a0 a1 b0 b1 off (fore.set i.toNat e) rear (W1.setCell ⟨bf, i.toNat, none⟩ (.int .i64 e)) := by
 have hlt : ∀ {k : Nat} {o : Obj}, wr.heap[k]? = some o → W1.heap[k]? = some o := fun hk => (hb.block _ (Array.getElem?_eq_some_iff.1 hk).1).trans hk
 have hrf := h.rf.below hb
 obtain ⟨cells, hty⟩ := hrf.typed
 refine ⟨(below_step h.below hb).setCell (p := ⟨bf, i.toNat, none⟩) hrf.lo _, ?_, ?_, ?_, ?_, by rw [List.length_set]; exact h.lf, h.lr, hrf.put i e, (h.rr.below hb).far (fun e => h.ne e.symm) _, h.ne⟩
 ·exact (Below.heap_setCell _ _ _ _ (type_ne (hlt h.x3) hty (by decide))).trans (hlt h.x3)
 ·exact (Below.heap_setCell _ _ _ _ (type_ne (hlt h.x4) hty (by decide))).trans (hlt h.x4)
 ·exact (Below.heap_setCell _ _ _ _ (type_ne (hlt h.x8) hty (by decide))).trans (hlt h.x8)
 ·exact (Below.heap_setCell _ _ _ _ (type_ne (hlt h.x9) hty (by decide))).trans (hlt h.x9)
theorem Mid.rear {w : World} {L n3 n4 n8 n9 bf cf br cr : Nat} {a0 a1 b0 b1 off : Int} {fore rear : List Int} {wr W1 : World} (h : Mid w L n3 n4 n8 n9 bf cf br cr a0 a1 b0 b1 off fore rear wr) (hb : Below wr.heap.size wr W1) (i e : Int) :
  Mid w L n3 n4 n8 n9 bf cf br cr a0 a1 b0 b1 off fore (rear.set i.toNat e) (W1.setCell ⟨br, i.toNat, none⟩ (.int .i64 e)) := by
 have hlt : ∀ {k : Nat} {o : Obj}, wr.heap[k]? = some o → W1.heap[k]? = some o := fun hk => (hb.block _ (Array.getElem?_eq_some_iff.1 hk).1).trans hk
 have hrf := h.rr.below hb
 obtain ⟨cells, hty⟩ := hrf.typed
 refine ⟨(below_step h.below hb).setCell (p := ⟨br, i.toNat, none⟩) hrf.lo _, ?_, ?_, ?_, ?_, h.lf, by rw [List.length_set]; exact h.lr, (h.rf.below hb).far h.ne _, hrf.put i e, h.ne⟩
 ·exact (Below.heap_setCell _ _ _ _ (type_ne (hlt h.x3) hty (by decide))).trans (hlt h.x3)
 ·exact (Below.heap_setCell _ _ _ _ (type_ne (hlt h.x4) hty (by decide))).trans (hlt h.x4)
 ·exact (Below.heap_setCell _ _ _ _ (type_ne (hlt h.x8) hty (by decide))).trans (hlt h.x8)
 ·exact (Below.heap_setCell _ _ _ _ (type_ne (hlt h.x9) hty (by decide))).trans (hlt h.x9)
set_option maxHeartbeats 8000000 in
set_option maxRecDepth 100000 in
theorem middle_calls {B f : Nat} {A C : Option Addr} {ca cb : Nat} {a b : List Int} {l : List SP} {w : World} (a0 a1 b0 b1 : Int) (xs ys : List Int) (r0 r1 r2 : Int)
  (hF : Fin B f (.slice A a.length ca) (.slice C b.length cb) l w) (hA : Kd.C (Kd.int .i64) w A a.length a) (hC : Kd.C (Kd.int .i64) w C b.length b)
  (ha0 : 0 ≤ a0) (ha1 : a0 ≤ a1) (ha2 : a1 ≤ a.length) (hb0 : 0 ≤ b0) (hb1 : b0 ≤ b1) (hb2 : b1 ≤ b.length) (hla : a.length ≤ 4000000000) (hlb : b.length ≤ 4000000000)
  (hxl : (xs.length : Int) = a1 - a0) (hyl : (ys.length : Int) = b1 - b0) (hx : ∀ u : Int, 0 ≤ u → u < a1 - a0 → rd a (a0 + u) = rd xs u) (hy : ∀ u : Int, 0 ≤ u → u < b1 - b0 → rd b (b0 + u) = rd ys u)
  (hBw : B ≤ w.heap.size) (h : middleF xs ys = some (r0, r1, r2)) :
  Calls Try.prog 167 #[.pointer (some ⟨f, 0, none⟩), .agg #[.int .i64 a0, .int .i64 a1, .int .i64 b0, .int .i64 b1]] w fun e w' => (∃ dd : Int, e = .returned (.agg #[.int .i64 (a0 + r0), .int .i64 (b0 + r1), .int .i64 r2, .int .i64 dd])) ∧ Below w.heap.size w w' := by
 have HF := Aside0.mk hF
 have HA := Aside0.mk hA
 have HC := Aside0.mk hC
 have HX := Aside0.mk hx
 have HY := Aside0.mk hy
 have HXL := Aside0.mk hxl
 have HYL := Aside0.mk hyl
 have HH := Aside0.mk h
 have HBw := Aside0.mk hBw
 clear hF hA hC hx hy hxl hyl h hBw
 obtain ⟨N, hN⟩ : ∃ N : Nat, N = xs.length + ys.length := ⟨_, rfl⟩
 have HN := Aside0.mk hN
 have g1 : a1 - a0 + (b1 - b0) = (N : Int) := by have := HXL.out; have := HYL.out; omega
 have G1 := Aside0.mk g1
 have g2 : N ≤ 8000000000 := by omega
 clear hN g1
 have t1 : True := trivial
 have t2 : True := trivial
 go_enter Try.func167, Try.ntmps167
 go_wp2
 go_quiet (fail)
 go_wp2_with (first | (go_at_call 169; have _t := t1; (with_reducible refine (newRun_at _ N _ G1.out g2).mono ?_); rintro e w1 ⟨gf, cf, rfl, hg1, hrow1, hb1⟩; clear t1) | (go_at_call 169; have _t := t2; (with_reducible refine (newRun_at _ N _ G1.out g2).mono ?_); rintro e w2 ⟨gr, cr, rfl, hg2, hrow2, hb2⟩; clear t2))
 have HM := Aside0.mk (mid_start (off := (N : Int) + 1) hb1 hg1 hrow1 hb2 hg2 hrow2)
 clear hb1 hg1 hrow1 hb2 hg2 hrow2
 generalize ((w2.alloc (.cells #[.slice (some ⟨gf, 0, none⟩) (2 * N + 3) cf, .int .i64 ((N : Int) + 1)] 213)).alloc (.cells #[.slice (some ⟨gr, 0, none⟩) (2 * N + 3) cr, .int .i64 ((N : Int) + 1)] 213)) = W at *
 obtain ⟨n9, hn9⟩ : ∃ n9, n9 = w2.heap.size + 1 := ⟨_, rfl⟩
 rw [← hn9] at HM ⊢
 clear hn9
 generalize w2.heap.size = n8 at *
 obtain ⟨n4, hn4⟩ : ∃ n4, n4 = w.heap.size + 1 := ⟨_, rfl⟩
 rw [← hn4] at HM ⊢
 have HN4 : Aside0 (w.heap.size ≤ n4) := ⟨by omega⟩
 clear hn4
 obtain ⟨n3, hn3⟩ : ∃ n3, n3 = w.heap.size := ⟨_, rfl⟩
 have hH : midF xs ys ((N : Int) + 1) (a1 - a0 - (b1 - b0)) (a1 - a0) (b1 - b0) (N + 1) 0 (newRow N) (newRow N) = some (r0, r1, r2) := by
  have := HH.out
  unfold middleF at this
  rw [← HN.out, HXL.out, HYL.out] at this
  exact this
 have HH2 := Aside0.mk hH
 clear hH HH hn3
 have HXR : Aside0 (∀ u : Int, 0 ≤ u → u < a1 - a0 → rd a (a1 - 1 - u) = rd xs.reverse u) := ⟨fun u h0 h1 => by
  rw [rd_reverse xs u h0 (by have := HXL.out; omega), ← HX.out _ (by have := HXL.out; omega) (by have := HXL.out; omega)]
  congr 1; have := HXL.out; omega⟩
 have HYR : Aside0 (∀ u : Int, 0 ≤ u → u < b1 - b0 → rd b (b1 - 1 - u) = rd ys.reverse u) := ⟨fun u h0 h1 => by
  rw [rd_reverse ys u h0 (by have := HYL.out; omega), ← HY.out _ (by have := HYL.out; omega) (by have := HYL.out; omega)]
  congr 1; have := HYL.out; omega⟩
 have HXRL : Aside0 ((xs.reverse.length : Int) = a1 - a0) := ⟨by rw [List.length_reverse]; exact HXL.out⟩
 have HYRL : Aside0 ((ys.reverse.length : Int) = b1 - b0) := ⟨by rw [List.length_reverse]; exact HYL.out⟩
 obtain ⟨xr, hxr⟩ : ∃ xr, xr = xs.reverse := ⟨_, rfl⟩
 obtain ⟨yr, hyr⟩ : ∃ yr, yr = ys.reverse := ⟨_, rfl⟩
 rw [← hxr] at HXR HXRL
 rw [← hyr] at HYR HYRL
 have HXrev := Aside0.mk hxr
 have HYrev := Aside0.mk hyr
 have gN : a1 - a0 + (b1 - b0) = (N : Int) := G1.out
 have HGN := Aside0.mk gN
 clear hxr hyr gN
 go_loopg [10] (N + 2) (fun gg s10 wr => ∃ (s : Nat) (d : Int) (fore rear : List Int), s ≤ gg ∧ s10 = .int .i64 d ∧ 0 ≤ d ∧ (s : Int) + d ≤ N + 1 ∧
  Aside0 (midF xs ys ((N : Int) + 1) (a1 - a0 - (b1 - b0)) (a1 - a0) (b1 - b0) s d fore rear = some (r0, r1, r2)) ∧ Aside0 (Mid w (2 * N + 3) w.heap.size n4 n8 n9 gf cf gr cr a0 a1 b0 b1 ((N : Int) + 1) fore rear wr))
 case atStart => exact ⟨N + 1, 0, newRow N, newRow N, by omega, rfl, by omega, by omega, HH2, HM⟩
 case round =>
  clear HH2 HM
  obtain ⟨s, d, fore, rear, hg, rfl, hd0, hsd, HH, HM⟩ := hrel
  cases s with
  | zero => exact absurd HH.out (by simp [midF])
  | succ s =>
   have hh := HH.out
   simp only [midF] at hh
   have HK := Aside0.mk hh
   clear hh HH
   have hd1 : d ≤ N := by omega
   have hd2 : d ≤ 20000000000 := by omega
   go_wp2
   obtain ⟨wo, rfl⟩ : ∃ wo : World, wo = wr := ⟨_, rfl⟩
   go_loopg [11] (d.toNat + 2) (fun gg s11 wr => ∃ (t : Nat) (k : Int) (far : List Int), t ≤ gg ∧ s11 = .int .i64 k ∧ k + 2 * (t : Int) = d + 2 ∧ -d ≤ k ∧
       Aside0 ((midK1 (fun fore' => midK2 (a1 - a0) (b1 - b0) (fun rear' => midF xs ys ((N : Int) + 1) (a1 - a0 - (b1 - b0)) (a1 - a0) (b1 - b0) s (d + 1) fore' rear') (frontF xr yr fore' ((N : Int) + 1) (a1 - a0 - (b1 - b0)) (a1 - a0) d d ((a1 - a0 - (b1 - b0)).tmod 2 == 0) (d + 1).toNat (-d) rear))) (frontF xs ys rear ((N : Int) + 1) (a1 - a0 - (b1 - b0)) (a1 - a0) d (d - 1) ((a1 - a0 - (b1 - b0)).tmod 2 != 0) t k far) = some (r0, r1, r2)) ∧ Aside0 (Mid w (2 * N + 3) w.heap.size n4 n8 n9 gf cf gr cr a0 a1 b0 b1 ((N : Int) + 1) far rear wr))
   case atStart => exact ⟨(d + 1).toNat, -d, fore, by omega, rfl, by omega, by omega, ⟨by rw [HXrev.out, HYrev.out]; exact HK.out⟩, HM⟩
   case round =>
    clear HM HK
    obtain ⟨t, k, far, hgt, rfl, hkt, hkd, HK, HM⟩ := hrel
    cases t with
    | zero =>
     have hkd1 : d < k := by omega
     have hkd2 : decide (k ≤ d) = false := decide_eq_false (by omega)
     have hh := HK.out
     simp only [frontF, midK1] at hh
     have HK2 := Aside0.mk hh
     clear hh HK hkd1 hkd2
     go_wp2
     obtain ⟨wo2, rfl⟩ : ∃ wo2 : World, wo2 = wr := ⟨_, rfl⟩
     obtain ⟨fore, rfl⟩ : ∃ fo, fo = far := ⟨_, rfl⟩
     go_loopg [15] (d.toNat + 2) (fun gg s11 wr => ∃ (t : Nat) (k : Int) (far : List Int), t ≤ gg ∧ s11 = .int .i64 k ∧ k + 2 * (t : Int) = d + 2 ∧ -d ≤ k ∧
         Aside0 ((midK2 (a1 - a0) (b1 - b0) (fun rear' => midF xs ys ((N : Int) + 1) (a1 - a0 - (b1 - b0)) (a1 - a0) (b1 - b0) s (d + 1) fore rear')) (frontF xr yr fore ((N : Int) + 1) (a1 - a0 - (b1 - b0)) (a1 - a0) d d ((a1 - a0 - (b1 - b0)).tmod 2 == 0) t k far) = some (r0, r1, r2)) ∧ Aside0 (Mid w (2 * N + 3) w.heap.size n4 n8 n9 gf cf gr cr a0 a1 b0 b1 ((N : Int) + 1) fore far wr))
     case atStart => exact ⟨(d + 1).toNat, -d, rear, by omega, rfl, by omega, by omega, HK2, HM⟩
     case round =>
      clear HM HK2
      obtain ⟨t, k, far, hgt, rfl, hkt, hkd, HK, HM⟩ := hrel
      cases t with
      | zero =>
       have hkd1 : d < k := by omega
       have hkd2 : decide (k ≤ d) = false := decide_eq_false (by omega)
       have hh := HK.out
       simp only [frontF, midK2] at hh
       have HH2 := Aside0.mk hh
       clear hh HK
       go_wp2
       go_roundg s
       case measure => omega
       case rel => exact ⟨s, d + 1, fore, far, Nat.le_refl _, by go_num, by omega, by omega, HH2, HM⟩
      | succ t =>
       have hkd1 : k ≤ d := by omega
       have hkd2 : decide (k ≤ d) = true := decide_eq_true hkd1
       have hh := HK.out
       simp only [frontF] at hh
       by_cases hok : okFar xr yr far fore ((N : Int) + 1) k d = true
       ·rw [if_pos hok] at hh
        have hok2 := okFar_out hok
        obtain ⟨hu0, hu1, hu2, hfb, hob, hu3, hu4⟩ := hok2
        have HFB := Aside0.mk hfb
        have HOB := Aside0.mk hob
        have HHH := Aside0.mk hh
        clear hok hh HK hfb hob
        have HM0 := Aside0.mk HM.out
        have p0 := (blk_cell HM.out.x3 0).trans (rfl : _ = some (Value.int .i64 a0))
        have p1 := (blk_cell HM.out.x3 1).trans (rfl : _ = some (Value.int .i64 a1))
        have p2 := (blk_cell HM.out.x3 2).trans (rfl : _ = some (Value.int .i64 b0))
        have p3 := (blk_cell HM.out.x3 3).trans (rfl : _ = some (Value.int .i64 b1))
        have e0 := (blk_cell HM.out.x9 0).trans (rfl : _ = some (Value.slice (some ⟨gr, 0, none⟩) (2 * N + 3) cr))
        have e1 := (blk_cell HM.out.x9 1).trans (rfl : _ = some (Value.int .i64 ((N : Int) + 1)))
        have hcall := fun W0 (hW : W0 = wr) => back_calls (B := B) (f := f) (bf := gr) (c := cr) (w := W0) a0 a1 b0 b1 ((N : Int) + 1) k d xr yr (hW ▸ HF.out.below HM.out.below) (hW ▸ Kd.C_below HA.out HM.out.below) (hW ▸ Kd.C_below HC.out HM.out.below) (hW ▸ HM.out.rr.lower HBw.out) ha0 ha1 ha2 hb0 hb1 hb2 hla hlb hd0 hd2 hkd hkd1 (by omega) (by omega) (by rw [HM.out.lr]; omega) HFB.out HXRL.out HYRL.out HXR.out HYR.out hu0 hu1 hu2
        rw [HM.out.lr] at hcall
        have HCALL := Aside0.mk hcall
        clear hcall
        generalize hbeg : beginI far ((N : Int) + 1) k d = u at *
        generalize hsl : slideI xr yr k u = e at *
        clear hbeg hsl
        have tk1 : True := trivial
        by_cases hmet : metB ((a1 - a0 - (b1 - b0)).tmod 2 == 0) fore ((N : Int) + 1) (a1 - a0 - (b1 - b0) - k) d (a1 - a0) e = true
        ·rw [if_pos hmet] at HHH
         obtain ⟨m1, m2', m3', m4, m5'⟩ := metB_true hmet
         have m2 := decide_eq_true m2'
         have m3 := decide_eq_true m3'
         have m5 := decide_eq_true m5'
         have ix0 : 0 ≤ (N : Int) + 1 + (a1 - a0 - (b1 - b0) - k) := by omega
         have ix1 : (N : Int) + 1 + (a1 - a0 - (b1 - b0) - k) < ((2 * N + 3 : Nat) : Int) := by omega
         have ro := rd_bound HOB.out ((N : Int) + 1 + (a1 - a0 - (b1 - b0) - k))
         have ro0 := ro.1
         have ro1 := ro.2
         have hr := HHH.out
         simp only [midK2] at hr
         have HRR := Aside0.mk hr
         clear hmet m2' m3' m5' HHH hr ro
         go_wp2_with (first | (go_at_call 171; refine (HCALL.out _ rfl).mono ?_; rintro en W3 ⟨rfl, W1, hb1, rfl⟩; have HM2 := Aside0.mk (HM0.out.rear hb1 ((N : Int) + 1 + k) e); clear hb1 HCALL HM HM0 p0 p1 p2 p3 e0 e1; generalize W1.setCell ⟨gr, ((N : Int) + 1 + k).toNat, none⟩ (.int .i64 e) = W2 at HM2 ⊢; have p0 := (blk_cell HM2.out.x3 0).trans (rfl : _ = some (Value.int .i64 a0)); have p1 := (blk_cell HM2.out.x3 1).trans (rfl : _ = some (Value.int .i64 a1)); have p2 := (blk_cell HM2.out.x3 2).trans (rfl : _ = some (Value.int .i64 b0)); have p3 := (blk_cell HM2.out.x3 3).trans (rfl : _ = some (Value.int .i64 b1)); have z0 := (blk_cell HM2.out.x4 0).trans (rfl : _ = some (Value.int .i64 0)); have y0 := Lib.frozen_of_heap HM2.out.x4 0; have z1 := (blk_cell HM2.out.x4 1).trans (rfl : _ = some (Value.int .i64 0)); have y1 := Lib.frozen_of_heap HM2.out.x4 1; have z2 := (blk_cell HM2.out.x4 2).trans (rfl : _ = some (Value.int .i64 0)); have y2 := Lib.frozen_of_heap HM2.out.x4 2; have z3 := (blk_cell HM2.out.x4 3).trans (rfl : _ = some (Value.int .i64 0)); have y3 := Lib.frozen_of_heap HM2.out.x4 3; have e0 := (blk_cell HM2.out.x8 0).trans (rfl : _ = some (Value.slice (some ⟨gf, 0, none⟩) (2 * N + 3) cf)); have e1 := (blk_cell HM2.out.x8 1).trans (rfl : _ = some (Value.int .i64 ((N : Int) + 1))); have ec := (Kd.R_celln (0 : Int) HM2.out.rf ((N : Int) + 1 + (a1 - a0 - (b1 - b0) - k)) ix0 (by rw [HM2.out.lf]; exact ix1)).1; rw [rdOf_rd] at ec))
         refine bodyPost_ret (v := .agg #[.int .i64 (a1 - e), .int .i64 (b1 - (e - k)), .int .i64 (e - u), .int .i64 (2 * d)]) (by simp [results, Try.results167, go_sem, z0, z1, z2, z3]) rfl ?_
         have hrr := HRR.out
         have hrr1 := Option.some.inj hrr
         simp only [Prod.mk.injEq] at hrr1
         obtain ⟨k1, k2, k3⟩ := hrr1
         refine ⟨⟨2 * d, ?_⟩, (((HM2.out.below.setCell (p := ⟨n4, 0, none⟩) HN4.out _).setCell (p := ⟨n4, 1, none⟩) HN4.out _).setCell (p := ⟨n4, 2, none⟩) HN4.out _).setCell (p := ⟨n4, 3, none⟩) HN4.out _⟩
         rw [← k1, ← k2, ← k3, show a1 - e = a0 + (a1 - a0 - e) by omega, show b1 - (e - k) = b0 + (b1 - b0 - (e - k)) by omega]
        ·rw [if_neg hmet] at HHH
         have hm := metB_false hmet
         have hc0 := HHH
         clear hmet
         rcases hm with m1 | ⟨m1, m2⟩ | ⟨m1, m2, m3⟩ | ⟨m1, m2, m3, m4⟩ | ⟨m1, m2, m3, m4, m5⟩
         ·clear hc0
          go_wp2_with (first | (go_at_call 171; refine (HCALL.out _ rfl).mono ?_; rintro en W3 ⟨rfl, W1, hb1, rfl⟩; have HM2 := Aside0.mk (HM0.out.rear hb1 ((N : Int) + 1 + k) e); clear hb1 HCALL HM HM0 p0 p1 p2 p3 e0 e1; generalize W1.setCell ⟨gr, ((N : Int) + 1 + k).toNat, none⟩ (.int .i64 e) = W2 at HM2 ⊢; have p0 := (blk_cell HM2.out.x3 0).trans (rfl : _ = some (Value.int .i64 a0)); have p1 := (blk_cell HM2.out.x3 1).trans (rfl : _ = some (Value.int .i64 a1)); have p2 := (blk_cell HM2.out.x3 2).trans (rfl : _ = some (Value.int .i64 b0)); have p3 := (blk_cell HM2.out.x3 3).trans (rfl : _ = some (Value.int .i64 b1))))
          go_roundg t
          case measure => omega
          case rel => exact ⟨t, k + 2, far.set ((N : Int) + 1 + k).toNat e, Nat.le_refl _, by go_num, by omega, by omega, HHH, HM2⟩
         ·clear hc0
          go_wp2_with (first | (go_at_call 171; refine (HCALL.out _ rfl).mono ?_; rintro en W3 ⟨rfl, W1, hb1, rfl⟩; have HM2 := Aside0.mk (HM0.out.rear hb1 ((N : Int) + 1 + k) e); clear hb1 HCALL HM HM0 p0 p1 p2 p3 e0 e1; generalize W1.setCell ⟨gr, ((N : Int) + 1 + k).toNat, none⟩ (.int .i64 e) = W2 at HM2 ⊢; have p0 := (blk_cell HM2.out.x3 0).trans (rfl : _ = some (Value.int .i64 a0)); have p1 := (blk_cell HM2.out.x3 1).trans (rfl : _ = some (Value.int .i64 a1)); have p2 := (blk_cell HM2.out.x3 2).trans (rfl : _ = some (Value.int .i64 b0)); have p3 := (blk_cell HM2.out.x3 3).trans (rfl : _ = some (Value.int .i64 b1))))
          go_roundg t
          case measure => omega
          case rel => exact ⟨t, k + 2, far.set ((N : Int) + 1 + k).toNat e, Nat.le_refl _, by go_num, by omega, by omega, HHH, HM2⟩
         ·clear hc0
          go_wp2_with (first | (go_at_call 171; refine (HCALL.out _ rfl).mono ?_; rintro en W3 ⟨rfl, W1, hb1, rfl⟩; have HM2 := Aside0.mk (HM0.out.rear hb1 ((N : Int) + 1 + k) e); clear hb1 HCALL HM HM0 p0 p1 p2 p3 e0 e1; generalize W1.setCell ⟨gr, ((N : Int) + 1 + k).toNat, none⟩ (.int .i64 e) = W2 at HM2 ⊢; have p0 := (blk_cell HM2.out.x3 0).trans (rfl : _ = some (Value.int .i64 a0)); have p1 := (blk_cell HM2.out.x3 1).trans (rfl : _ = some (Value.int .i64 a1)); have p2 := (blk_cell HM2.out.x3 2).trans (rfl : _ = some (Value.int .i64 b0)); have p3 := (blk_cell HM2.out.x3 3).trans (rfl : _ = some (Value.int .i64 b1))))
          go_roundg t
          case measure => omega
          case rel => exact ⟨t, k + 2, far.set ((N : Int) + 1 + k).toNat e, Nat.le_refl _, by go_num, by omega, by omega, HHH, HM2⟩
         ·clear hc0
          have n2 := of_decide_eq_true m2
          have n3 := of_decide_eq_true m3
          have ix0 : 0 ≤ (N : Int) + 1 + (a1 - a0 - (b1 - b0) - k) := by omega
          have ix1 : (N : Int) + 1 + (a1 - a0 - (b1 - b0) - k) < ((2 * N + 3 : Nat) : Int) := by omega
          have ro := rd_bound HOB.out ((N : Int) + 1 + (a1 - a0 - (b1 - b0) - k))
          have ro0 := ro.1
          have ro1 := ro.2
          clear n2 n3 ro
          go_wp2_with (first | (go_at_call 171; refine (HCALL.out _ rfl).mono ?_; rintro en W3 ⟨rfl, W1, hb1, rfl⟩; have HM2 := Aside0.mk (HM0.out.rear hb1 ((N : Int) + 1 + k) e); clear hb1 HCALL HM HM0 p0 p1 p2 p3 e0 e1; generalize W1.setCell ⟨gr, ((N : Int) + 1 + k).toNat, none⟩ (.int .i64 e) = W2 at HM2 ⊢; have p0 := (blk_cell HM2.out.x3 0).trans (rfl : _ = some (Value.int .i64 a0)); have p1 := (blk_cell HM2.out.x3 1).trans (rfl : _ = some (Value.int .i64 a1)); have p2 := (blk_cell HM2.out.x3 2).trans (rfl : _ = some (Value.int .i64 b0)); have p3 := (blk_cell HM2.out.x3 3).trans (rfl : _ = some (Value.int .i64 b1)); have z0 := (blk_cell HM2.out.x4 0).trans (rfl : _ = some (Value.int .i64 0)); have y0 := Lib.frozen_of_heap HM2.out.x4 0; have z1 := (blk_cell HM2.out.x4 1).trans (rfl : _ = some (Value.int .i64 0)); have y1 := Lib.frozen_of_heap HM2.out.x4 1; have z2 := (blk_cell HM2.out.x4 2).trans (rfl : _ = some (Value.int .i64 0)); have y2 := Lib.frozen_of_heap HM2.out.x4 2; have z3 := (blk_cell HM2.out.x4 3).trans (rfl : _ = some (Value.int .i64 0)); have y3 := Lib.frozen_of_heap HM2.out.x4 3; have e0 := (blk_cell HM2.out.x8 0).trans (rfl : _ = some (Value.slice (some ⟨gf, 0, none⟩) (2 * N + 3) cf)); have e1 := (blk_cell HM2.out.x8 1).trans (rfl : _ = some (Value.int .i64 ((N : Int) + 1))); have ec := (Kd.R_celln (0 : Int) HM2.out.rf ((N : Int) + 1 + (a1 - a0 - (b1 - b0) - k)) ix0 (by rw [HM2.out.lf]; exact ix1)).1; rw [rdOf_rd] at ec))
          go_roundg t
          case measure => omega
          case rel => exact ⟨t, k + 2, far.set ((N : Int) + 1 + k).toNat e, Nat.le_refl _, by go_num, by omega, by omega, HHH, HM2⟩
         ·clear hc0
          have n2 := of_decide_eq_true m2
          have n3 := of_decide_eq_true m3
          have ix0 : 0 ≤ (N : Int) + 1 + (a1 - a0 - (b1 - b0) - k) := by omega
          have ix1 : (N : Int) + 1 + (a1 - a0 - (b1 - b0) - k) < ((2 * N + 3 : Nat) : Int) := by omega
          have ro := rd_bound HOB.out ((N : Int) + 1 + (a1 - a0 - (b1 - b0) - k))
          have ro0 := ro.1
          have ro1 := ro.2
          clear n2 n3 ro
          go_wp2_with (first | (go_at_call 171; refine (HCALL.out _ rfl).mono ?_; rintro en W3 ⟨rfl, W1, hb1, rfl⟩; have HM2 := Aside0.mk (HM0.out.rear hb1 ((N : Int) + 1 + k) e); clear hb1 HCALL HM HM0 p0 p1 p2 p3 e0 e1; generalize W1.setCell ⟨gr, ((N : Int) + 1 + k).toNat, none⟩ (.int .i64 e) = W2 at HM2 ⊢; have p0 := (blk_cell HM2.out.x3 0).trans (rfl : _ = some (Value.int .i64 a0)); have p1 := (blk_cell HM2.out.x3 1).trans (rfl : _ = some (Value.int .i64 a1)); have p2 := (blk_cell HM2.out.x3 2).trans (rfl : _ = some (Value.int .i64 b0)); have p3 := (blk_cell HM2.out.x3 3).trans (rfl : _ = some (Value.int .i64 b1)); have z0 := (blk_cell HM2.out.x4 0).trans (rfl : _ = some (Value.int .i64 0)); have y0 := Lib.frozen_of_heap HM2.out.x4 0; have z1 := (blk_cell HM2.out.x4 1).trans (rfl : _ = some (Value.int .i64 0)); have y1 := Lib.frozen_of_heap HM2.out.x4 1; have z2 := (blk_cell HM2.out.x4 2).trans (rfl : _ = some (Value.int .i64 0)); have y2 := Lib.frozen_of_heap HM2.out.x4 2; have z3 := (blk_cell HM2.out.x4 3).trans (rfl : _ = some (Value.int .i64 0)); have y3 := Lib.frozen_of_heap HM2.out.x4 3; have e0 := (blk_cell HM2.out.x8 0).trans (rfl : _ = some (Value.slice (some ⟨gf, 0, none⟩) (2 * N + 3) cf)); have e1 := (blk_cell HM2.out.x8 1).trans (rfl : _ = some (Value.int .i64 ((N : Int) + 1))); have ec := (Kd.R_celln (0 : Int) HM2.out.rf ((N : Int) + 1 + (a1 - a0 - (b1 - b0) - k)) ix0 (by rw [HM2.out.lf]; exact ix1)).1; rw [rdOf_rd] at ec))
          go_roundg t
          case measure => omega
          case rel => exact ⟨t, k + 2, far.set ((N : Int) + 1 + k).toNat e, Nat.le_refl _, by go_num, by omega, by omega, HHH, HM2⟩
       ·rw [if_neg hok] at hh
        exact absurd hh (by simp [midK2])
    | succ t =>
     have hkd1 : k ≤ d := by omega
     have hkd2 : decide (k ≤ d) = true := decide_eq_true hkd1
     have hh := HK.out
     simp only [frontF] at hh
     by_cases hok : okFar xs ys far rear ((N : Int) + 1) k d = true
     ·rw [if_pos hok] at hh
      have hok2 := okFar_out hok
      obtain ⟨hu0, hu1, hu2, hfb, hob, hu3, hu4⟩ := hok2
      have HFB := Aside0.mk hfb
      have HOB := Aside0.mk hob
      have HHH := Aside0.mk hh
      clear hok hh HK hfb hob
      have HM0 := Aside0.mk HM.out
      have p0 := (blk_cell HM.out.x3 0).trans (rfl : _ = some (Value.int .i64 a0))
      have p1 := (blk_cell HM.out.x3 1).trans (rfl : _ = some (Value.int .i64 a1))
      have p2 := (blk_cell HM.out.x3 2).trans (rfl : _ = some (Value.int .i64 b0))
      have p3 := (blk_cell HM.out.x3 3).trans (rfl : _ = some (Value.int .i64 b1))
      have e0 := (blk_cell HM.out.x8 0).trans (rfl : _ = some (Value.slice (some ⟨gf, 0, none⟩) (2 * N + 3) cf))
      have e1 := (blk_cell HM.out.x8 1).trans (rfl : _ = some (Value.int .i64 ((N : Int) + 1)))
      have hcall := fun W0 (hW : W0 = wr) => forth_calls (B := B) (f := f) (bf := gf) (c := cf) (w := W0) a0 a1 b0 b1 ((N : Int) + 1) k d xs ys (hW ▸ HF.out.below HM.out.below) (hW ▸ Kd.C_below HA.out HM.out.below) (hW ▸ Kd.C_below HC.out HM.out.below) (hW ▸ HM.out.rf.lower HBw.out) ha0 ha1 ha2 hb0 hb1 hb2 hla hlb hd0 hd2 hkd hkd1 (by omega) (by omega) (by rw [HM.out.lf]; omega) HFB.out HXL.out HYL.out HX.out HY.out hu0 hu1 hu2
      rw [HM.out.lf] at hcall
      have HCALL := Aside0.mk hcall
      clear hcall
      generalize hbeg : beginI far ((N : Int) + 1) k d = u at *
      generalize hsl : slideI xs ys k u = e at *
      clear hbeg hsl
      have tk1 : True := trivial
      by_cases hmet : metB ((a1 - a0 - (b1 - b0)).tmod 2 != 0) rear ((N : Int) + 1) (a1 - a0 - (b1 - b0) - k) (d - 1) (a1 - a0) e = true
      ·rw [if_pos hmet] at HHH
       obtain ⟨m1, m2', m3', m4, m5'⟩ := metB_true hmet
       have m2 := decide_eq_true m2'
       have m3 := decide_eq_true m3'
       have m5 := decide_eq_true m5'
       have ix0 : 0 ≤ (N : Int) + 1 + (a1 - a0 - (b1 - b0) - k) := by omega
       have ix1 : (N : Int) + 1 + (a1 - a0 - (b1 - b0) - k) < ((2 * N + 3 : Nat) : Int) := by omega
       have ro := rd_bound HOB.out ((N : Int) + 1 + (a1 - a0 - (b1 - b0) - k))
       have ro0 := ro.1
       have ro1 := ro.2
       have hr := HHH.out
       simp only [midK1] at hr
       have HRR := Aside0.mk hr
       clear hmet m2' m3' m5' HHH hr ro
       go_wp2_with (first | (go_at_call 170; refine (HCALL.out _ rfl).mono ?_; rintro en W3 ⟨rfl, W1, hb1, rfl⟩; have HM2 := Aside0.mk (HM0.out.fore hb1 ((N : Int) + 1 + k) e); clear hb1 HCALL HM HM0 p0 p1 p2 p3 e0 e1; generalize W1.setCell ⟨gf, ((N : Int) + 1 + k).toNat, none⟩ (.int .i64 e) = W2 at HM2 ⊢; have p0 := (blk_cell HM2.out.x3 0).trans (rfl : _ = some (Value.int .i64 a0)); have p1 := (blk_cell HM2.out.x3 1).trans (rfl : _ = some (Value.int .i64 a1)); have p2 := (blk_cell HM2.out.x3 2).trans (rfl : _ = some (Value.int .i64 b0)); have p3 := (blk_cell HM2.out.x3 3).trans (rfl : _ = some (Value.int .i64 b1)); have z0 := (blk_cell HM2.out.x4 0).trans (rfl : _ = some (Value.int .i64 0)); have y0 := Lib.frozen_of_heap HM2.out.x4 0; have z1 := (blk_cell HM2.out.x4 1).trans (rfl : _ = some (Value.int .i64 0)); have y1 := Lib.frozen_of_heap HM2.out.x4 1; have z2 := (blk_cell HM2.out.x4 2).trans (rfl : _ = some (Value.int .i64 0)); have y2 := Lib.frozen_of_heap HM2.out.x4 2; have z3 := (blk_cell HM2.out.x4 3).trans (rfl : _ = some (Value.int .i64 0)); have y3 := Lib.frozen_of_heap HM2.out.x4 3; have e0 := (blk_cell HM2.out.x9 0).trans (rfl : _ = some (Value.slice (some ⟨gr, 0, none⟩) (2 * N + 3) cr)); have e1 := (blk_cell HM2.out.x9 1).trans (rfl : _ = some (Value.int .i64 ((N : Int) + 1))); have ec := (Kd.R_celln (0 : Int) HM2.out.rr ((N : Int) + 1 + (a1 - a0 - (b1 - b0) - k)) ix0 (by rw [HM2.out.lr]; exact ix1)).1; rw [rdOf_rd] at ec))
       refine bodyPost_ret (v := .agg #[.int .i64 (a0 + u), .int .i64 (b0 + u - k), .int .i64 (e - u), .int .i64 (2 * d - 1)]) (by simp [results, Try.results167, go_sem, z0, z1, z2, z3]) rfl ?_
       have hrr := HRR.out
       have hrr1 := Option.some.inj hrr
       simp only [Prod.mk.injEq] at hrr1
       obtain ⟨k1, k2, k3⟩ := hrr1
       refine ⟨⟨2 * d - 1, ?_⟩, (((HM2.out.below.setCell (p := ⟨n4, 0, none⟩) HN4.out _).setCell (p := ⟨n4, 1, none⟩) HN4.out _).setCell (p := ⟨n4, 2, none⟩) HN4.out _).setCell (p := ⟨n4, 3, none⟩) HN4.out _⟩
       rw [← k1, ← k2, ← k3, show b0 + u - k = b0 + (u - k) by omega]
      ·rw [if_neg hmet] at HHH
       have hm := metB_false hmet
       have hc0 := HHH
       clear hmet
       rcases hm with m1 | ⟨m1, m2⟩ | ⟨m1, m2, m3⟩ | ⟨m1, m2, m3, m4⟩ | ⟨m1, m2, m3, m4, m5⟩
       ·clear hc0
        go_wp2_with (first | (go_at_call 170; refine (HCALL.out _ rfl).mono ?_; rintro en W3 ⟨rfl, W1, hb1, rfl⟩; have HM2 := Aside0.mk (HM0.out.fore hb1 ((N : Int) + 1 + k) e); clear hb1 HCALL HM HM0 p0 p1 p2 p3 e0 e1; generalize W1.setCell ⟨gf, ((N : Int) + 1 + k).toNat, none⟩ (.int .i64 e) = W2 at HM2 ⊢; have p0 := (blk_cell HM2.out.x3 0).trans (rfl : _ = some (Value.int .i64 a0)); have p1 := (blk_cell HM2.out.x3 1).trans (rfl : _ = some (Value.int .i64 a1)); have p2 := (blk_cell HM2.out.x3 2).trans (rfl : _ = some (Value.int .i64 b0)); have p3 := (blk_cell HM2.out.x3 3).trans (rfl : _ = some (Value.int .i64 b1))))
        go_roundg t
        case measure => omega
        case rel => exact ⟨t, k + 2, far.set ((N : Int) + 1 + k).toNat e, Nat.le_refl _, by go_num, by omega, by omega, HHH, HM2⟩
       ·clear hc0
        go_wp2_with (first | (go_at_call 170; refine (HCALL.out _ rfl).mono ?_; rintro en W3 ⟨rfl, W1, hb1, rfl⟩; have HM2 := Aside0.mk (HM0.out.fore hb1 ((N : Int) + 1 + k) e); clear hb1 HCALL HM HM0 p0 p1 p2 p3 e0 e1; generalize W1.setCell ⟨gf, ((N : Int) + 1 + k).toNat, none⟩ (.int .i64 e) = W2 at HM2 ⊢; have p0 := (blk_cell HM2.out.x3 0).trans (rfl : _ = some (Value.int .i64 a0)); have p1 := (blk_cell HM2.out.x3 1).trans (rfl : _ = some (Value.int .i64 a1)); have p2 := (blk_cell HM2.out.x3 2).trans (rfl : _ = some (Value.int .i64 b0)); have p3 := (blk_cell HM2.out.x3 3).trans (rfl : _ = some (Value.int .i64 b1))))
        go_roundg t
        case measure => omega
        case rel => exact ⟨t, k + 2, far.set ((N : Int) + 1 + k).toNat e, Nat.le_refl _, by go_num, by omega, by omega, HHH, HM2⟩
       ·clear hc0
        go_wp2_with (first | (go_at_call 170; refine (HCALL.out _ rfl).mono ?_; rintro en W3 ⟨rfl, W1, hb1, rfl⟩; have HM2 := Aside0.mk (HM0.out.fore hb1 ((N : Int) + 1 + k) e); clear hb1 HCALL HM HM0 p0 p1 p2 p3 e0 e1; generalize W1.setCell ⟨gf, ((N : Int) + 1 + k).toNat, none⟩ (.int .i64 e) = W2 at HM2 ⊢; have p0 := (blk_cell HM2.out.x3 0).trans (rfl : _ = some (Value.int .i64 a0)); have p1 := (blk_cell HM2.out.x3 1).trans (rfl : _ = some (Value.int .i64 a1)); have p2 := (blk_cell HM2.out.x3 2).trans (rfl : _ = some (Value.int .i64 b0)); have p3 := (blk_cell HM2.out.x3 3).trans (rfl : _ = some (Value.int .i64 b1))))
        go_roundg t
        case measure => omega
        case rel => exact ⟨t, k + 2, far.set ((N : Int) + 1 + k).toNat e, Nat.le_refl _, by go_num, by omega, by omega, HHH, HM2⟩
       ·clear hc0
        have n2 := of_decide_eq_true m2
        have n3 := of_decide_eq_true m3
        have ix0 : 0 ≤ (N : Int) + 1 + (a1 - a0 - (b1 - b0) - k) := by omega
        have ix1 : (N : Int) + 1 + (a1 - a0 - (b1 - b0) - k) < ((2 * N + 3 : Nat) : Int) := by omega
        have ro := rd_bound HOB.out ((N : Int) + 1 + (a1 - a0 - (b1 - b0) - k))
        have ro0 := ro.1
        have ro1 := ro.2
        clear n2 n3 ro
        go_wp2_with (first | (go_at_call 170; refine (HCALL.out _ rfl).mono ?_; rintro en W3 ⟨rfl, W1, hb1, rfl⟩; have HM2 := Aside0.mk (HM0.out.fore hb1 ((N : Int) + 1 + k) e); clear hb1 HCALL HM HM0 p0 p1 p2 p3 e0 e1; generalize W1.setCell ⟨gf, ((N : Int) + 1 + k).toNat, none⟩ (.int .i64 e) = W2 at HM2 ⊢; have p0 := (blk_cell HM2.out.x3 0).trans (rfl : _ = some (Value.int .i64 a0)); have p1 := (blk_cell HM2.out.x3 1).trans (rfl : _ = some (Value.int .i64 a1)); have p2 := (blk_cell HM2.out.x3 2).trans (rfl : _ = some (Value.int .i64 b0)); have p3 := (blk_cell HM2.out.x3 3).trans (rfl : _ = some (Value.int .i64 b1)); have z0 := (blk_cell HM2.out.x4 0).trans (rfl : _ = some (Value.int .i64 0)); have y0 := Lib.frozen_of_heap HM2.out.x4 0; have z1 := (blk_cell HM2.out.x4 1).trans (rfl : _ = some (Value.int .i64 0)); have y1 := Lib.frozen_of_heap HM2.out.x4 1; have z2 := (blk_cell HM2.out.x4 2).trans (rfl : _ = some (Value.int .i64 0)); have y2 := Lib.frozen_of_heap HM2.out.x4 2; have z3 := (blk_cell HM2.out.x4 3).trans (rfl : _ = some (Value.int .i64 0)); have y3 := Lib.frozen_of_heap HM2.out.x4 3; have e0 := (blk_cell HM2.out.x9 0).trans (rfl : _ = some (Value.slice (some ⟨gr, 0, none⟩) (2 * N + 3) cr)); have e1 := (blk_cell HM2.out.x9 1).trans (rfl : _ = some (Value.int .i64 ((N : Int) + 1))); have ec := (Kd.R_celln (0 : Int) HM2.out.rr ((N : Int) + 1 + (a1 - a0 - (b1 - b0) - k)) ix0 (by rw [HM2.out.lr]; exact ix1)).1; rw [rdOf_rd] at ec))
        go_roundg t
        case measure => omega
        case rel => exact ⟨t, k + 2, far.set ((N : Int) + 1 + k).toNat e, Nat.le_refl _, by go_num, by omega, by omega, HHH, HM2⟩
       ·clear hc0
        have n2 := of_decide_eq_true m2
        have n3 := of_decide_eq_true m3
        have ix0 : 0 ≤ (N : Int) + 1 + (a1 - a0 - (b1 - b0) - k) := by omega
        have ix1 : (N : Int) + 1 + (a1 - a0 - (b1 - b0) - k) < ((2 * N + 3 : Nat) : Int) := by omega
        have ro := rd_bound HOB.out ((N : Int) + 1 + (a1 - a0 - (b1 - b0) - k))
        have ro0 := ro.1
        have ro1 := ro.2
        clear n2 n3 ro
        go_wp2_with (first | (go_at_call 170; refine (HCALL.out _ rfl).mono ?_; rintro en W3 ⟨rfl, W1, hb1, rfl⟩; have HM2 := Aside0.mk (HM0.out.fore hb1 ((N : Int) + 1 + k) e); clear hb1 HCALL HM HM0 p0 p1 p2 p3 e0 e1; generalize W1.setCell ⟨gf, ((N : Int) + 1 + k).toNat, none⟩ (.int .i64 e) = W2 at HM2 ⊢; have p0 := (blk_cell HM2.out.x3 0).trans (rfl : _ = some (Value.int .i64 a0)); have p1 := (blk_cell HM2.out.x3 1).trans (rfl : _ = some (Value.int .i64 a1)); have p2 := (blk_cell HM2.out.x3 2).trans (rfl : _ = some (Value.int .i64 b0)); have p3 := (blk_cell HM2.out.x3 3).trans (rfl : _ = some (Value.int .i64 b1)); have z0 := (blk_cell HM2.out.x4 0).trans (rfl : _ = some (Value.int .i64 0)); have y0 := Lib.frozen_of_heap HM2.out.x4 0; have z1 := (blk_cell HM2.out.x4 1).trans (rfl : _ = some (Value.int .i64 0)); have y1 := Lib.frozen_of_heap HM2.out.x4 1; have z2 := (blk_cell HM2.out.x4 2).trans (rfl : _ = some (Value.int .i64 0)); have y2 := Lib.frozen_of_heap HM2.out.x4 2; have z3 := (blk_cell HM2.out.x4 3).trans (rfl : _ = some (Value.int .i64 0)); have y3 := Lib.frozen_of_heap HM2.out.x4 3; have e0 := (blk_cell HM2.out.x9 0).trans (rfl : _ = some (Value.slice (some ⟨gr, 0, none⟩) (2 * N + 3) cr)); have e1 := (blk_cell HM2.out.x9 1).trans (rfl : _ = some (Value.int .i64 ((N : Int) + 1))); have ec := (Kd.R_celln (0 : Int) HM2.out.rr ((N : Int) + 1 + (a1 - a0 - (b1 - b0) - k)) ix0 (by rw [HM2.out.lr]; exact ix1)).1; rw [rdOf_rd] at ec))
        go_roundg t
        case measure => omega
        case rel => exact ⟨t, k + 2, far.set ((N : Int) + 1 + k).toNat e, Nat.le_refl _, by go_num, by omega, by omega, HHH, HM2⟩
     ·rw [if_neg hok] at hh
      exact absurd hh (by simp [midK1])
end Go.Proofs.Ytfiamddinkokbaa.F
end

section
set_option linter.unusedVariables false
set_option linter.unusedSimpArgs false
namespace Go.Proofs.Ytfiamddinkokbaa.F
open Go.RowKit Go.Shelf Go.Proofs.YtfiamddinkokbaaW.PrintWords Go.Proofs.YtfiamddinkokbaaW.PrintLast Go.Proofs.YtfiamddinkokbaaW.PrintMore
attribute [local go_sem] max2_int min2_int max_two min_two max_three min_three max_four min_four
set_option linter.unusedVariables false
set_option linter.unusedSimpArgs false
def pre {α : Type} [DecidableEq α] : List α → List α → Nat
 | x :: a, y :: b => if x = y then pre a b + 1 else 0
 | _, _ => 0
theorem pre_nil_left {α : Type} [DecidableEq α] (b : List α) : pre ([] : List α) b = 0 := by unfold pre; rfl
theorem pre_nil_right {α : Type} [DecidableEq α] (a : List α) : pre a ([] : List α) = 0 := by cases a <;> rfl
theorem pre_le {α : Type} [DecidableEq α] : ∀ (a b : List α), pre a b ≤ a.length ∧ pre a b ≤ b.length
 | [], b => by rw [pre_nil_left]; simp
 | x :: a, [] => by rw [pre_nil_right]; simp
 | x :: a, y :: b => by
  rw [pre]
  have := pre_le a b
  split <;> simp only [List.length_cons] <;> omega
theorem pre_on {α : Type} [DecidableEq α] {a b : List α} {u : Nat} (h1 : u < a.length) (h2 : u < b.length) (h : a[u]? = b[u]?) : pre (a.drop u) (b.drop u) = pre (a.drop (u + 1)) (b.drop (u + 1)) + 1 := by
 rw [List.getElem?_eq_getElem h1, List.getElem?_eq_getElem h2] at h
 rw [List.drop_eq_getElem_cons h1, List.drop_eq_getElem_cons h2, pre, if_pos (Option.some.inj h)]
theorem pre_off {α : Type} [DecidableEq α] {a b : List α} {u : Nat} (h : ¬ (u < a.length ∧ u < b.length ∧ a[u]? = b[u]?)) : pre (a.drop u) (b.drop u) = 0 := by
 by_cases h1 : u < a.length
 ·by_cases h2 : u < b.length
  ·rw [List.drop_eq_getElem_cons h1, List.drop_eq_getElem_cons h2, pre, if_neg]
   intro e
   exact h ⟨h1, h2, by rw [List.getElem?_eq_getElem h1, List.getElem?_eq_getElem h2, e]⟩
  ·rw [List.drop_of_length_le (l := b) (by omega), pre_nil_right]
 ·rw [List.drop_of_length_le (l := a) (by omega), pre_nil_left]
def endsN {α : Type} [DecidableEq α] (xs ys : List α) : Nat := pre xs ys
def endsM {α : Type} [DecidableEq α] (xs ys : List α) : Nat := pre (xs.drop (pre xs ys)).reverse (ys.drop (pre xs ys)).reverse
theorem rd_eq_iff {a b : List Int} {u : Int} (h0 : 0 ≤ u) (h1 : u < a.length) (h2 : u < b.length) : rd a u = rd b u ↔ a[u.toNat]? = b[u.toNat]? := by
 unfold rd
 rw [List.getD_eq_getElem?_getD, List.getD_eq_getElem?_getD, List.getElem?_eq_getElem (l := a) (by omega), List.getElem?_eq_getElem (l := b) (by omega)]
 simp
theorem rd_rev {a : List Int} {v : Int} (h0 : 0 ≤ v) (h1 : v < a.length) : rd a ((a.length : Int) - 1 - v) = rd a.reverse v := by
 unfold rd
 rw [List.getD_eq_getElem?_getD, List.getD_eq_getElem?_getD, List.getElem?_reverse (by omega), show a.length - 1 - v.toNat = ((a.length : Int) - 1 - v).toNat by omega]
theorem C_readsInt {w : World} {A : Option Addr} {n : Nat} {xs : List Int} (h : Kd.C (Kd.int .i64) w A n xs) : ReadsInt w .i64 A n xs := by
 refine ⟨h.1, h.2.1, fun hn => ?_⟩
 obtain ⟨ad, e, hc⟩ := h.2.2 hn
 refine ⟨ad, e, fun j hj => ?_⟩
 have hi : j < xs.length := by rw [h.1]; exact hj
 obtain ⟨ad', e', h'⟩ := C_int_at h (j : Int) (by omega) (by omega)
 rw [e] at e'
 obtain rfl := Option.some.inj e'
 rw [Int.toNat_natCast] at h'
 rw [h']; rfl
theorem cut_C {w : World} {A : Option Addr} {c : Nat} {xs : List Int} (h : Kd.C (Kd.int .i64) w A xs.length xs) (hc : xs.length ≤ c) (j : Int) (h0 : 0 ≤ j) (h1 : j ≤ xs.length) :
  ∃ (A' : Option Addr) (n' : Nat), n' = (xs.drop j.toNat).length ∧ (∀ W : World, (Instr.slice 50 (.slice A xs.length c) (some (.int .i64 j)) none none).run Try.prog W = .ok (.slice A' n' (c - j.toNat)) W) ∧ ReadsInt w .i64 A' n' (xs.drop j.toNat) := by
 obtain ⟨i0, hi, hz0, hz1, hz2⟩ := info_parts (show (Try.prog.info? 3).map (fun i => (i.zero, i.size, i.bytes)) = some (some (.int .i64 0), 1, 8) by kernel_rfl)
 obtain ⟨A', h2, h3, _⟩ := print_cut_int (P := Try.prog) (k := .i64) 50 3 Try.underlying50 hi hz1 A c xs j h0 h1 hc
 exact ⟨A', _, rfl, h2, h3 w (C_readsInt h)⟩
theorem reads_rev {w : World} {A : Option Addr} {n : Nat} {xs : List Int} (h : ReadsInt w .i64 A n xs) (v : Int) (h0 : 0 ≤ v) (h1 : v < n) :
  ∃ ad, A = some ad ∧ w.cell? (ad.add ((n : Int) - 1 - v).toNat) = some (.int .i64 (rd xs.reverse v)) := by
 have hn := h.1
 subst hn
 obtain ⟨ad, e, hc⟩ := h.at_ ((xs.length : Int) - 1 - v) (by omega) (by omega)
 exact ⟨ad, e, by rw [hc, rd_rev h0 h1]⟩
set_option maxHeartbeats 8000000 in
set_option maxRecDepth 100000 in
theorem ends_calls {A C : Option Addr} {ca cb : Nat} {xs ys : List Int} {w : World} (hA : Kd.C (Kd.int .i64) w A xs.length xs) (hC : Kd.C (Kd.int .i64) w C ys.length ys) (hca : xs.length ≤ ca) (hcb : ys.length ≤ cb) (hx : xs.length ≤ 4000000000) (hy : ys.length ≤ 4000000000) :
  Calls Try.prog 165 #[.slice A xs.length ca, .slice C ys.length cb] w fun e w' => e = .returned (.tuple #[.int .i64 (endsN xs ys), .int .i64 (endsM xs ys)]) ∧ Drawn0 w w' := by
 have HA := Aside0.mk hA
 have HC := Aside0.mk hC
 have HCA := Aside0.mk hca
 have HCB := Aside0.mk hcb
 clear hA hC hca hcb
 by_cases hab : ys.length < xs.length
 ·have habb : decide (ys.length < xs.length) = true := decide_eq_true hab
  go_enter Try.func165, Try.ntmps165
  go_wp2
  go_loopg [6] xs.length (fun gg s6 wr => ∃ (u : Int) (q : Nat), s6 = .int .i64 u ∧ wr = w.drewN q ∧ 0 ≤ u ∧ u ≤ ys.length ∧ Aside0 (pre xs ys = u.toNat + pre (xs.drop u.toNat) (ys.drop u.toNat)) ∧ Aside0 (xs.length - u.toNat ≤ gg))
  case atStart => exact ⟨0, 0, rfl, rfl, by omega, by omega, ⟨by simp⟩, ⟨by simp⟩⟩
  case round =>
   obtain ⟨u, q, rfl, rfl, hu0, hu1, HP, HG⟩ := hrel
   have hcase : (decide (u < (ys.length : Int)) = false ∧ Aside0 (pre xs ys = u.toNat)) ∨ (u < ys.length ∧ ∃ ad bd, A = some ad ∧ C = some bd ∧ w.cell? (ad.add u.toNat) = some (.int .i64 (rd xs u)) ∧ w.cell? (bd.add u.toNat) = some (.int .i64 (rd ys u)) ∧
     ((rd xs u == rd ys u) = false ∧ Aside0 (pre xs ys = u.toNat) ∨ (rd xs u == rd ys u) = true ∧ Aside0 (pre xs ys = (u + 1).toNat + pre (xs.drop (u + 1).toNat) (ys.drop (u + 1).toNat)))) := by
    by_cases h1 : u < ys.length
    ·right
     have h2 : u < (xs.length : Int) := by omega
     have h4 : u < (ys.length : Int) := by omega
     obtain ⟨ad, e1, hx1⟩ := C_int_at HA.out u hu0 h2
     obtain ⟨bd, e2, hx2⟩ := C_int_at HC.out u hu0 h4
     refine ⟨h1, ad, bd, e1, e2, hx1, hx2, ?_⟩
     by_cases h3 : rd xs u = rd ys u
     ·refine .inr ⟨beq_iff_eq.2 h3, ⟨?_⟩⟩
      have := pre_on (a := xs) (b := ys) (u := u.toNat) (by omega) (by omega) ((rd_eq_iff hu0 h2 h4).1 h3)
      rw [HP.out, this, show (u + 1).toNat = u.toNat + 1 by omega]; omega
     ·exact .inl ⟨by simpa using h3, ⟨by rw [HP.out, pre_off (fun h => h3 ((rd_eq_iff hu0 h2 h4).2 h.2.2))]; rfl⟩⟩
    ·left
     exact ⟨decide_eq_false h1, ⟨by rw [HP.out, pre_off (fun h => h1 (by omega))]; rfl⟩⟩
   have hux : u ≤ (xs.length : Int) := by omega
   have huy : u ≤ (ys.length : Int) := by omega
   clear HP
   rcases hcase with ⟨h1b, HP⟩ | ⟨h1, ad, bd, rfl, rfl, hx1, hx2, ⟨h3b, HP⟩ | ⟨h3b, HP⟩⟩
   rotate_left 2
   ·have h1b : decide (u < (ys.length : Int)) = true := decide_eq_true h1
    have h2 : u < (xs.length : Int) := by omega
    have h4 : u < (ys.length : Int) := by omega
    go_wp2
    go_quiet (fail)
    go_wp2
    go_roundg (xs.length - (u + 1).toNat)
    case measure => have := HG.out; omega
    case rel => exact ⟨u + 1, q + nq, by go_num, rfl, by omega, by omega, HP, ⟨Nat.le_refl _⟩⟩
   rotate_left
   ·have h1b : decide (u < (ys.length : Int)) = true := decide_eq_true h1
    have h2 : u < (xs.length : Int) := by omega
    have h4 : u < (ys.length : Int) := by omega
    go_wp2
    go_quiet (fail)
    clear hx1 hx2 h3b h1b h1
    obtain ⟨A2, lx, hlx, hcut1, hr1⟩ := cut_C HA.out HCA.out u hu0 hux
    obtain ⟨C2, ly, hly, hcut2, hr2⟩ := cut_C HC.out HCB.out u hu0 huy
    have HR1 := Aside0.mk hr1
    have HLX := Aside0.mk hlx
    have HLY := Aside0.mk hly
    have HR2 := Aside0.mk hr2
    clear hr1 hr2 hlx hly
    go_wp2
    go_quiet (fail)
    clear hcut1 hcut2
    have habb2 : decide (ly < lx) = true := by rw [HLX.out, HLY.out, List.length_drop, List.length_drop]; exact decide_eq_true (by omega)
    have HPR := Aside0.mk (show endsM xs ys = pre (xs.drop u.toNat).reverse (ys.drop u.toNat).reverse by unfold endsM; rw [HP.out])
    have hlx : lx ≤ 4000000000 := by rw [HLX.out, List.length_drop]; omega
    have hly : ly ≤ 4000000000 := by rw [HLY.out, List.length_drop]; omega
    have hab2 : ly < lx := by rw [HLX.out, HLY.out, List.length_drop, List.length_drop]; omega
    have hle : ly ≤ lx := by rw [HLX.out, HLY.out, List.length_drop, List.length_drop]; omega
    have HUZ := Aside0.mk (show ((endsN xs ys : Nat) : Int) = u by unfold endsN; rw [HP.out]; omega)
    have HUU := Aside0.mk huy
    have HUV := Aside0.mk hux
    clear HP HG habb hux huy hu1
    generalize xs.drop u.toNat = xd at *
    generalize ys.drop u.toNat = yd at *
    go_wp2
    obtain ⟨q0, hq0⟩ : ∃ q0 : Nat, Aside0 (q0 = q0) := ⟨0, ⟨rfl⟩⟩
    clear hq0 q0
    go_loopg [7] lx (fun gg s7 wr => ∃ (v : Int) (q : Nat), s7 = .int .i64 v ∧ wr = w.drewN q ∧ 0 ≤ v ∧ v ≤ ly ∧ Aside0 (pre xd.reverse yd.reverse = v.toNat + pre (xd.reverse.drop v.toNat) (yd.reverse.drop v.toNat)) ∧ Aside0 (lx - v.toNat ≤ gg))
    case atStart => exact ⟨0, _, rfl, (by rw [World.drewN_drewN, World.drewN_drewN]), by omega, by omega, ⟨by simp⟩, ⟨by simp⟩⟩
    case round =>
     obtain ⟨v, q2, rfl, rfl, hv0, hv1, HP, HG⟩ := hrel
     have hcase : (decide (v < (ly : Int)) = false ∧ Aside0 (pre xd.reverse yd.reverse = v.toNat)) ∨ (v < ly ∧ ∃ ad bd, A2 = some ad ∧ C2 = some bd ∧ w.cell? (ad.add ((lx : Int) - 1 - v).toNat) = some (.int .i64 (rd xd.reverse v)) ∧ w.cell? (bd.add ((ly : Int) - 1 - v).toNat) = some (.int .i64 (rd yd.reverse v)) ∧
       ((rd xd.reverse v == rd yd.reverse v) = false ∧ Aside0 (pre xd.reverse yd.reverse = v.toNat) ∨ (rd xd.reverse v == rd yd.reverse v) = true ∧ Aside0 (pre xd.reverse yd.reverse = (v + 1).toNat + pre (xd.reverse.drop (v + 1).toNat) (yd.reverse.drop (v + 1).toNat)))) := by
      have l1 : xd.reverse.length = lx := by rw [List.length_reverse]; exact HLX.out.symm
      have l2 : yd.reverse.length = ly := by rw [List.length_reverse]; exact HLY.out.symm
      by_cases h1 : v < ly
      ·right
       have h2 : v < (lx : Int) := by omega
       have h4 : v < (ly : Int) := by omega
       obtain ⟨ad, e1, hx1⟩ := reads_rev HR1.out v hv0 h2
       obtain ⟨bd, e2, hx2⟩ := reads_rev HR2.out v hv0 h4
       refine ⟨h1, ad, bd, e1, e2, hx1, hx2, ?_⟩
       by_cases h3 : rd xd.reverse v = rd yd.reverse v
       ·refine .inr ⟨beq_iff_eq.2 h3, ⟨?_⟩⟩
        have := pre_on (a := xd.reverse) (b := yd.reverse) (u := v.toNat) (by omega) (by omega) ((rd_eq_iff hv0 (by omega) (by omega)).1 h3)
        rw [HP.out, this, show (v + 1).toNat = v.toNat + 1 by omega]; omega
       ·exact .inl ⟨by simpa using h3, ⟨by rw [HP.out, pre_off (fun h => h3 ((rd_eq_iff hv0 (by omega) (by omega)).2 h.2.2))]; rfl⟩⟩
      ·left
       exact ⟨decide_eq_false h1, ⟨by rw [HP.out, pre_off (fun h => h1 (by omega))]; rfl⟩⟩
     clear HP
     generalize rd xd.reverse v = cx at hcase
     generalize rd yd.reverse v = cy at hcase
     rcases hcase with ⟨h1b, HP⟩ | ⟨h1, ad, bd, rfl, rfl, hx1, hx2, ⟨h3b, HP⟩ | ⟨h3b, HP⟩⟩
     ·go_wp2
      go_quiet (fail)
      go_wp2
      go_ret2
      rw [HPR.out, HP.out, HUZ.out, show ((v.toNat : Nat) : Int) = v by omega]
      exact ⟨rfl, Drawn0.step ⟨⟨q2, rfl⟩⟩ _⟩
     ·have h1b : decide (v < (ly : Int)) = true := decide_eq_true h1
      have i0 : 0 ≤ (lx : Int) - 1 - v := by omega
      have i1 : (lx : Int) - 1 - v < (lx : Int) := by omega
      have i2 : 0 ≤ (ly : Int) - 1 - v := by omega
      have i3 : (ly : Int) - 1 - v < (ly : Int) := by omega
      go_wp2
      go_quiet (fail)
      go_wp2
      go_ret2
      rw [HPR.out, HP.out, HUZ.out, show ((v.toNat : Nat) : Int) = v by omega]
      exact ⟨rfl, Drawn0.step ⟨⟨q2, rfl⟩⟩ _⟩
     ·have h1b : decide (v < (ly : Int)) = true := decide_eq_true h1
      have i0 : 0 ≤ (lx : Int) - 1 - v := by omega
      have i1 : (lx : Int) - 1 - v < (lx : Int) := by omega
      have i2 : 0 ≤ (ly : Int) - 1 - v := by omega
      have i3 : (ly : Int) - 1 - v < (ly : Int) := by omega
      go_wp2
      go_quiet (fail)
      go_wp2
      go_roundg (lx - (v + 1).toNat)
      case measure => have := HG.out; omega
      case rel => exact ⟨v + 1, q2 + nq, by go_num, rfl, by omega, by omega, HP, ⟨Nat.le_refl _⟩⟩
   ·go_wp2
    go_quiet (fail)
    clear h1b
    obtain ⟨A2, lx, hlx, hcut1, hr1⟩ := cut_C HA.out HCA.out u hu0 hux
    obtain ⟨C2, ly, hly, hcut2, hr2⟩ := cut_C HC.out HCB.out u hu0 huy
    have HR1 := Aside0.mk hr1
    have HLX := Aside0.mk hlx
    have HLY := Aside0.mk hly
    have HR2 := Aside0.mk hr2
    clear hr1 hr2 hlx hly
    go_wp2
    go_quiet (fail)
    clear hcut1 hcut2
    have habb2 : decide (ly < lx) = true := by rw [HLX.out, HLY.out, List.length_drop, List.length_drop]; exact decide_eq_true (by omega)
    have HPR := Aside0.mk (show endsM xs ys = pre (xs.drop u.toNat).reverse (ys.drop u.toNat).reverse by unfold endsM; rw [HP.out])
    have hlx : lx ≤ 4000000000 := by rw [HLX.out, List.length_drop]; omega
    have hly : ly ≤ 4000000000 := by rw [HLY.out, List.length_drop]; omega
    have hab2 : ly < lx := by rw [HLX.out, HLY.out, List.length_drop, List.length_drop]; omega
    have hle : ly ≤ lx := by rw [HLX.out, HLY.out, List.length_drop, List.length_drop]; omega
    have HUZ := Aside0.mk (show ((endsN xs ys : Nat) : Int) = u by unfold endsN; rw [HP.out]; omega)
    have HUU := Aside0.mk huy
    have HUV := Aside0.mk hux
    clear HP HG habb hux huy hu1
    generalize xs.drop u.toNat = xd at *
    generalize ys.drop u.toNat = yd at *
    go_wp2
    obtain ⟨q0, hq0⟩ : ∃ q0 : Nat, Aside0 (q0 = q0) := ⟨0, ⟨rfl⟩⟩
    clear hq0 q0
    go_loopg [7] lx (fun gg s7 wr => ∃ (v : Int) (q : Nat), s7 = .int .i64 v ∧ wr = w.drewN q ∧ 0 ≤ v ∧ v ≤ ly ∧ Aside0 (pre xd.reverse yd.reverse = v.toNat + pre (xd.reverse.drop v.toNat) (yd.reverse.drop v.toNat)) ∧ Aside0 (lx - v.toNat ≤ gg))
    case atStart => exact ⟨0, _, rfl, (by rw [World.drewN_drewN, World.drewN_drewN]), by omega, by omega, ⟨by simp⟩, ⟨by simp⟩⟩
    case round =>
     obtain ⟨v, q2, rfl, rfl, hv0, hv1, HP, HG⟩ := hrel
     have hcase : (decide (v < (ly : Int)) = false ∧ Aside0 (pre xd.reverse yd.reverse = v.toNat)) ∨ (v < ly ∧ ∃ ad bd, A2 = some ad ∧ C2 = some bd ∧ w.cell? (ad.add ((lx : Int) - 1 - v).toNat) = some (.int .i64 (rd xd.reverse v)) ∧ w.cell? (bd.add ((ly : Int) - 1 - v).toNat) = some (.int .i64 (rd yd.reverse v)) ∧
       ((rd xd.reverse v == rd yd.reverse v) = false ∧ Aside0 (pre xd.reverse yd.reverse = v.toNat) ∨ (rd xd.reverse v == rd yd.reverse v) = true ∧ Aside0 (pre xd.reverse yd.reverse = (v + 1).toNat + pre (xd.reverse.drop (v + 1).toNat) (yd.reverse.drop (v + 1).toNat)))) := by
      have l1 : xd.reverse.length = lx := by rw [List.length_reverse]; exact HLX.out.symm
      have l2 : yd.reverse.length = ly := by rw [List.length_reverse]; exact HLY.out.symm
      by_cases h1 : v < ly
      ·right
       have h2 : v < (lx : Int) := by omega
       have h4 : v < (ly : Int) := by omega
       obtain ⟨ad, e1, hx1⟩ := reads_rev HR1.out v hv0 h2
       obtain ⟨bd, e2, hx2⟩ := reads_rev HR2.out v hv0 h4
       refine ⟨h1, ad, bd, e1, e2, hx1, hx2, ?_⟩
       by_cases h3 : rd xd.reverse v = rd yd.reverse v
       ·refine .inr ⟨beq_iff_eq.2 h3, ⟨?_⟩⟩
        have := pre_on (a := xd.reverse) (b := yd.reverse) (u := v.toNat) (by omega) (by omega) ((rd_eq_iff hv0 (by omega) (by omega)).1 h3)
        rw [HP.out, this, show (v + 1).toNat = v.toNat + 1 by omega]; omega
       ·exact .inl ⟨by simpa using h3, ⟨by rw [HP.out, pre_off (fun h => h3 ((rd_eq_iff hv0 (by omega) (by omega)).2 h.2.2))]; rfl⟩⟩
      ·left
       exact ⟨decide_eq_false h1, ⟨by rw [HP.out, pre_off (fun h => h1 (by omega))]; rfl⟩⟩
     clear HP
     generalize rd xd.reverse v = cx at hcase
     generalize rd yd.reverse v = cy at hcase
     rcases hcase with ⟨h1b, HP⟩ | ⟨h1, ad, bd, rfl, rfl, hx1, hx2, ⟨h3b, HP⟩ | ⟨h3b, HP⟩⟩
     ·go_wp2
      go_quiet (fail)
      go_wp2
      go_ret2
      rw [HPR.out, HP.out, HUZ.out, show ((v.toNat : Nat) : Int) = v by omega]
      exact ⟨rfl, Drawn0.step ⟨⟨q2, rfl⟩⟩ _⟩
     ·have h1b : decide (v < (ly : Int)) = true := decide_eq_true h1
      have i0 : 0 ≤ (lx : Int) - 1 - v := by omega
      have i1 : (lx : Int) - 1 - v < (lx : Int) := by omega
      have i2 : 0 ≤ (ly : Int) - 1 - v := by omega
      have i3 : (ly : Int) - 1 - v < (ly : Int) := by omega
      go_wp2
      go_quiet (fail)
      go_wp2
      go_ret2
      rw [HPR.out, HP.out, HUZ.out, show ((v.toNat : Nat) : Int) = v by omega]
      exact ⟨rfl, Drawn0.step ⟨⟨q2, rfl⟩⟩ _⟩
     ·have h1b : decide (v < (ly : Int)) = true := decide_eq_true h1
      have i0 : 0 ≤ (lx : Int) - 1 - v := by omega
      have i1 : (lx : Int) - 1 - v < (lx : Int) := by omega
      have i2 : 0 ≤ (ly : Int) - 1 - v := by omega
      have i3 : (ly : Int) - 1 - v < (ly : Int) := by omega
      go_wp2
      go_quiet (fail)
      go_wp2
      go_roundg (lx - (v + 1).toNat)
      case measure => have := HG.out; omega
      case rel => exact ⟨v + 1, q2 + nq, by go_num, rfl, by omega, by omega, HP, ⟨Nat.le_refl _⟩⟩
 ·have habb : decide (ys.length < xs.length) = false := decide_eq_false hab
  go_enter Try.func165, Try.ntmps165
  go_wp2
  go_loopg [6] xs.length (fun gg s6 wr => ∃ (u : Int) (q : Nat), s6 = .int .i64 u ∧ wr = w.drewN q ∧ 0 ≤ u ∧ u ≤ xs.length ∧ Aside0 (pre xs ys = u.toNat + pre (xs.drop u.toNat) (ys.drop u.toNat)) ∧ Aside0 (xs.length - u.toNat ≤ gg))
  case atStart => exact ⟨0, 0, rfl, rfl, by omega, by omega, ⟨by simp⟩, ⟨by simp⟩⟩
  case round =>
   obtain ⟨u, q, rfl, rfl, hu0, hu1, HP, HG⟩ := hrel
   have hcase : (decide (u < (xs.length : Int)) = false ∧ Aside0 (pre xs ys = u.toNat)) ∨ (u < xs.length ∧ ∃ ad bd, A = some ad ∧ C = some bd ∧ w.cell? (ad.add u.toNat) = some (.int .i64 (rd xs u)) ∧ w.cell? (bd.add u.toNat) = some (.int .i64 (rd ys u)) ∧
     ((rd xs u == rd ys u) = false ∧ Aside0 (pre xs ys = u.toNat) ∨ (rd xs u == rd ys u) = true ∧ Aside0 (pre xs ys = (u + 1).toNat + pre (xs.drop (u + 1).toNat) (ys.drop (u + 1).toNat)))) := by
    by_cases h1 : u < xs.length
    ·right
     have h2 : u < (xs.length : Int) := by omega
     have h4 : u < (ys.length : Int) := by omega
     obtain ⟨ad, e1, hx1⟩ := C_int_at HA.out u hu0 h2
     obtain ⟨bd, e2, hx2⟩ := C_int_at HC.out u hu0 h4
     refine ⟨h1, ad, bd, e1, e2, hx1, hx2, ?_⟩
     by_cases h3 : rd xs u = rd ys u
     ·refine .inr ⟨beq_iff_eq.2 h3, ⟨?_⟩⟩
      have := pre_on (a := xs) (b := ys) (u := u.toNat) (by omega) (by omega) ((rd_eq_iff hu0 h2 h4).1 h3)
      rw [HP.out, this, show (u + 1).toNat = u.toNat + 1 by omega]; omega
     ·exact .inl ⟨by simpa using h3, ⟨by rw [HP.out, pre_off (fun h => h3 ((rd_eq_iff hu0 h2 h4).2 h.2.2))]; rfl⟩⟩
    ·left
     exact ⟨decide_eq_false h1, ⟨by rw [HP.out, pre_off (fun h => h1 (by omega))]; rfl⟩⟩
   have hux : u ≤ (xs.length : Int) := by omega
   have huy : u ≤ (ys.length : Int) := by omega
   clear HP
   rcases hcase with ⟨h1b, HP⟩ | ⟨h1, ad, bd, rfl, rfl, hx1, hx2, ⟨h3b, HP⟩ | ⟨h3b, HP⟩⟩
   rotate_left 2
   ·have h1b : decide (u < (xs.length : Int)) = true := decide_eq_true h1
    have h2 : u < (xs.length : Int) := by omega
    have h4 : u < (ys.length : Int) := by omega
    go_wp2
    go_quiet (fail)
    go_wp2
    go_roundg (xs.length - (u + 1).toNat)
    case measure => have := HG.out; omega
    case rel => exact ⟨u + 1, q + nq, by go_num, rfl, by omega, by omega, HP, ⟨Nat.le_refl _⟩⟩
   rotate_left
   ·have h1b : decide (u < (xs.length : Int)) = true := decide_eq_true h1
    have h2 : u < (xs.length : Int) := by omega
    have h4 : u < (ys.length : Int) := by omega
    go_wp2
    go_quiet (fail)
    clear hx1 hx2 h3b h1b h1
    obtain ⟨A2, lx, hlx, hcut1, hr1⟩ := cut_C HA.out HCA.out u hu0 hux
    obtain ⟨C2, ly, hly, hcut2, hr2⟩ := cut_C HC.out HCB.out u hu0 huy
    have HR1 := Aside0.mk hr1
    have HLX := Aside0.mk hlx
    have HLY := Aside0.mk hly
    have HR2 := Aside0.mk hr2
    clear hr1 hr2 hlx hly
    go_wp2
    go_quiet (fail)
    clear hcut1 hcut2
    have habb2 : decide (ly < lx) = false := by rw [HLX.out, HLY.out, List.length_drop, List.length_drop]; exact decide_eq_false (by omega)
    have HPR := Aside0.mk (show endsM xs ys = pre (xs.drop u.toNat).reverse (ys.drop u.toNat).reverse by unfold endsM; rw [HP.out])
    have hlx : lx ≤ 4000000000 := by rw [HLX.out, List.length_drop]; omega
    have hly : ly ≤ 4000000000 := by rw [HLY.out, List.length_drop]; omega
    have hab2 : ¬ ly < lx := by rw [HLX.out, HLY.out, List.length_drop, List.length_drop]; omega
    have hle : lx ≤ ly := by rw [HLX.out, HLY.out, List.length_drop, List.length_drop]; omega
    have HUZ := Aside0.mk (show ((endsN xs ys : Nat) : Int) = u by unfold endsN; rw [HP.out]; omega)
    have HUU := Aside0.mk huy
    have HUV := Aside0.mk hux
    clear HP HG habb hux huy hu1
    generalize xs.drop u.toNat = xd at *
    generalize ys.drop u.toNat = yd at *
    go_wp2
    obtain ⟨q0, hq0⟩ : ∃ q0 : Nat, Aside0 (q0 = q0) := ⟨0, ⟨rfl⟩⟩
    clear hq0 q0
    go_loopg [7] lx (fun gg s7 wr => ∃ (v : Int) (q : Nat), s7 = .int .i64 v ∧ wr = w.drewN q ∧ 0 ≤ v ∧ v ≤ lx ∧ Aside0 (pre xd.reverse yd.reverse = v.toNat + pre (xd.reverse.drop v.toNat) (yd.reverse.drop v.toNat)) ∧ Aside0 (lx - v.toNat ≤ gg))
    case atStart => exact ⟨0, _, rfl, (by rw [World.drewN_drewN, World.drewN_drewN]), by omega, by omega, ⟨by simp⟩, ⟨by simp⟩⟩
    case round =>
     obtain ⟨v, q2, rfl, rfl, hv0, hv1, HP, HG⟩ := hrel
     have hcase : (decide (v < (lx : Int)) = false ∧ Aside0 (pre xd.reverse yd.reverse = v.toNat)) ∨ (v < lx ∧ ∃ ad bd, A2 = some ad ∧ C2 = some bd ∧ w.cell? (ad.add ((lx : Int) - 1 - v).toNat) = some (.int .i64 (rd xd.reverse v)) ∧ w.cell? (bd.add ((ly : Int) - 1 - v).toNat) = some (.int .i64 (rd yd.reverse v)) ∧
       ((rd xd.reverse v == rd yd.reverse v) = false ∧ Aside0 (pre xd.reverse yd.reverse = v.toNat) ∨ (rd xd.reverse v == rd yd.reverse v) = true ∧ Aside0 (pre xd.reverse yd.reverse = (v + 1).toNat + pre (xd.reverse.drop (v + 1).toNat) (yd.reverse.drop (v + 1).toNat)))) := by
      have l1 : xd.reverse.length = lx := by rw [List.length_reverse]; exact HLX.out.symm
      have l2 : yd.reverse.length = ly := by rw [List.length_reverse]; exact HLY.out.symm
      by_cases h1 : v < lx
      ·right
       have h2 : v < (lx : Int) := by omega
       have h4 : v < (ly : Int) := by omega
       obtain ⟨ad, e1, hx1⟩ := reads_rev HR1.out v hv0 h2
       obtain ⟨bd, e2, hx2⟩ := reads_rev HR2.out v hv0 h4
       refine ⟨h1, ad, bd, e1, e2, hx1, hx2, ?_⟩
       by_cases h3 : rd xd.reverse v = rd yd.reverse v
       ·refine .inr ⟨beq_iff_eq.2 h3, ⟨?_⟩⟩
        have := pre_on (a := xd.reverse) (b := yd.reverse) (u := v.toNat) (by omega) (by omega) ((rd_eq_iff hv0 (by omega) (by omega)).1 h3)
        rw [HP.out, this, show (v + 1).toNat = v.toNat + 1 by omega]; omega
       ·exact .inl ⟨by simpa using h3, ⟨by rw [HP.out, pre_off (fun h => h3 ((rd_eq_iff hv0 (by omega) (by omega)).2 h.2.2))]; rfl⟩⟩
      ·left
       exact ⟨decide_eq_false h1, ⟨by rw [HP.out, pre_off (fun h => h1 (by omega))]; rfl⟩⟩
     clear HP
     generalize rd xd.reverse v = cx at hcase
     generalize rd yd.reverse v = cy at hcase
     rcases hcase with ⟨h1b, HP⟩ | ⟨h1, ad, bd, rfl, rfl, hx1, hx2, ⟨h3b, HP⟩ | ⟨h3b, HP⟩⟩
     ·go_wp2
      go_quiet (fail)
      go_wp2
      go_ret2
      rw [HPR.out, HP.out, HUZ.out, show ((v.toNat : Nat) : Int) = v by omega]
      exact ⟨rfl, Drawn0.step ⟨⟨q2, rfl⟩⟩ _⟩
     ·have h1b : decide (v < (lx : Int)) = true := decide_eq_true h1
      have i0 : 0 ≤ (lx : Int) - 1 - v := by omega
      have i1 : (lx : Int) - 1 - v < (lx : Int) := by omega
      have i2 : 0 ≤ (ly : Int) - 1 - v := by omega
      have i3 : (ly : Int) - 1 - v < (ly : Int) := by omega
      go_wp2
      go_quiet (fail)
      go_wp2
      go_ret2
      rw [HPR.out, HP.out, HUZ.out, show ((v.toNat : Nat) : Int) = v by omega]
      exact ⟨rfl, Drawn0.step ⟨⟨q2, rfl⟩⟩ _⟩
     ·have h1b : decide (v < (lx : Int)) = true := decide_eq_true h1
      have i0 : 0 ≤ (lx : Int) - 1 - v := by omega
      have i1 : (lx : Int) - 1 - v < (lx : Int) := by omega
      have i2 : 0 ≤ (ly : Int) - 1 - v := by omega
      have i3 : (ly : Int) - 1 - v < (ly : Int) := by omega
      go_wp2
      go_quiet (fail)
      go_wp2
      go_roundg (lx - (v + 1).toNat)
      case measure => have := HG.out; omega
      case rel => exact ⟨v + 1, q2 + nq, by go_num, rfl, by omega, by omega, HP, ⟨Nat.le_refl _⟩⟩
   ·go_wp2
    go_quiet (fail)
    clear h1b
    obtain ⟨A2, lx, hlx, hcut1, hr1⟩ := cut_C HA.out HCA.out u hu0 hux
    obtain ⟨C2, ly, hly, hcut2, hr2⟩ := cut_C HC.out HCB.out u hu0 huy
    have HR1 := Aside0.mk hr1
    have HLX := Aside0.mk hlx
    have HLY := Aside0.mk hly
    have HR2 := Aside0.mk hr2
    clear hr1 hr2 hlx hly
    go_wp2
    go_quiet (fail)
    clear hcut1 hcut2
    have habb2 : decide (ly < lx) = false := by rw [HLX.out, HLY.out, List.length_drop, List.length_drop]; exact decide_eq_false (by omega)
    have HPR := Aside0.mk (show endsM xs ys = pre (xs.drop u.toNat).reverse (ys.drop u.toNat).reverse by unfold endsM; rw [HP.out])
    have hlx : lx ≤ 4000000000 := by rw [HLX.out, List.length_drop]; omega
    have hly : ly ≤ 4000000000 := by rw [HLY.out, List.length_drop]; omega
    have hab2 : ¬ ly < lx := by rw [HLX.out, HLY.out, List.length_drop, List.length_drop]; omega
    have hle : lx ≤ ly := by rw [HLX.out, HLY.out, List.length_drop, List.length_drop]; omega
    have HUZ := Aside0.mk (show ((endsN xs ys : Nat) : Int) = u by unfold endsN; rw [HP.out]; omega)
    have HUU := Aside0.mk huy
    have HUV := Aside0.mk hux
    clear HP HG habb hux huy hu1
    generalize xs.drop u.toNat = xd at *
    generalize ys.drop u.toNat = yd at *
    go_wp2
    obtain ⟨q0, hq0⟩ : ∃ q0 : Nat, Aside0 (q0 = q0) := ⟨0, ⟨rfl⟩⟩
    clear hq0 q0
    go_loopg [7] lx (fun gg s7 wr => ∃ (v : Int) (q : Nat), s7 = .int .i64 v ∧ wr = w.drewN q ∧ 0 ≤ v ∧ v ≤ lx ∧ Aside0 (pre xd.reverse yd.reverse = v.toNat + pre (xd.reverse.drop v.toNat) (yd.reverse.drop v.toNat)) ∧ Aside0 (lx - v.toNat ≤ gg))
    case atStart => exact ⟨0, _, rfl, (by rw [World.drewN_drewN, World.drewN_drewN]), by omega, by omega, ⟨by simp⟩, ⟨by simp⟩⟩
    case round =>
     obtain ⟨v, q2, rfl, rfl, hv0, hv1, HP, HG⟩ := hrel
     have hcase : (decide (v < (lx : Int)) = false ∧ Aside0 (pre xd.reverse yd.reverse = v.toNat)) ∨ (v < lx ∧ ∃ ad bd, A2 = some ad ∧ C2 = some bd ∧ w.cell? (ad.add ((lx : Int) - 1 - v).toNat) = some (.int .i64 (rd xd.reverse v)) ∧ w.cell? (bd.add ((ly : Int) - 1 - v).toNat) = some (.int .i64 (rd yd.reverse v)) ∧
       ((rd xd.reverse v == rd yd.reverse v) = false ∧ Aside0 (pre xd.reverse yd.reverse = v.toNat) ∨ (rd xd.reverse v == rd yd.reverse v) = true ∧ Aside0 (pre xd.reverse yd.reverse = (v + 1).toNat + pre (xd.reverse.drop (v + 1).toNat) (yd.reverse.drop (v + 1).toNat)))) := by
      have l1 : xd.reverse.length = lx := by rw [List.length_reverse]; exact HLX.out.symm
      have l2 : yd.reverse.length = ly := by rw [List.length_reverse]; exact HLY.out.symm
      by_cases h1 : v < lx
      ·right
       have h2 : v < (lx : Int) := by omega
       have h4 : v < (ly : Int) := by omega
       obtain ⟨ad, e1, hx1⟩ := reads_rev HR1.out v hv0 h2
       obtain ⟨bd, e2, hx2⟩ := reads_rev HR2.out v hv0 h4
       refine ⟨h1, ad, bd, e1, e2, hx1, hx2, ?_⟩
       by_cases h3 : rd xd.reverse v = rd yd.reverse v
       ·refine .inr ⟨beq_iff_eq.2 h3, ⟨?_⟩⟩
        have := pre_on (a := xd.reverse) (b := yd.reverse) (u := v.toNat) (by omega) (by omega) ((rd_eq_iff hv0 (by omega) (by omega)).1 h3)
        rw [HP.out, this, show (v + 1).toNat = v.toNat + 1 by omega]; omega
       ·exact .inl ⟨by simpa using h3, ⟨by rw [HP.out, pre_off (fun h => h3 ((rd_eq_iff hv0 (by omega) (by omega)).2 h.2.2))]; rfl⟩⟩
      ·left
       exact ⟨decide_eq_false h1, ⟨by rw [HP.out, pre_off (fun h => h1 (by omega))]; rfl⟩⟩
     clear HP
     generalize rd xd.reverse v = cx at hcase
     generalize rd yd.reverse v = cy at hcase
     rcases hcase with ⟨h1b, HP⟩ | ⟨h1, ad, bd, rfl, rfl, hx1, hx2, ⟨h3b, HP⟩ | ⟨h3b, HP⟩⟩
     ·go_wp2
      go_quiet (fail)
      go_wp2
      go_ret2
      rw [HPR.out, HP.out, HUZ.out, show ((v.toNat : Nat) : Int) = v by omega]
      exact ⟨rfl, Drawn0.step ⟨⟨q2, rfl⟩⟩ _⟩
     ·have h1b : decide (v < (lx : Int)) = true := decide_eq_true h1
      have i0 : 0 ≤ (lx : Int) - 1 - v := by omega
      have i1 : (lx : Int) - 1 - v < (lx : Int) := by omega
      have i2 : 0 ≤ (ly : Int) - 1 - v := by omega
      have i3 : (ly : Int) - 1 - v < (ly : Int) := by omega
      go_wp2
      go_quiet (fail)
      go_wp2
      go_ret2
      rw [HPR.out, HP.out, HUZ.out, show ((v.toNat : Nat) : Int) = v by omega]
      exact ⟨rfl, Drawn0.step ⟨⟨q2, rfl⟩⟩ _⟩
     ·have h1b : decide (v < (lx : Int)) = true := decide_eq_true h1
      have i0 : 0 ≤ (lx : Int) - 1 - v := by omega
      have i1 : (lx : Int) - 1 - v < (lx : Int) := by omega
      have i2 : 0 ≤ (ly : Int) - 1 - v := by omega
      have i3 : (ly : Int) - 1 - v < (ly : Int) := by omega
      go_wp2
      go_quiet (fail)
      go_wp2
      go_roundg (lx - (v + 1).toNat)
      case measure => have := HG.out; omega
      case rel => exact ⟨v + 1, q2 + nq, by go_num, rfl, by omega, by omega, HP, ⟨Nat.le_refl _⟩⟩
end Go.Proofs.Ytfiamddinkokbaa.F
end

section
set_option linter.unusedVariables false
set_option linter.unusedSimpArgs false
namespace Go.Proofs.Ytfiamddinkokbaa.F
open Go.RowKit Go.Shelf Go.Proofs.YtfiamddinkokbaaW.PrintWords
set_option linter.unusedVariables false
set_option linter.unusedSimpArgs false
def pieceI (a : List Int) (lo hi : Int) : List Int := (a.take hi.toNat).drop lo.toNat
theorem pieceI_length {a : List Int} {lo hi : Int} (h0 : 0 ≤ lo) (h1 : lo ≤ hi) (h2 : hi ≤ a.length) : ((pieceI a lo hi).length : Int) = hi - lo := by
 unfold pieceI; rw [List.length_drop, List.length_take]; omega
theorem pieceI_rd {a : List Int} {lo hi : Int} (h0 : 0 ≤ lo) (h2 : hi ≤ a.length) (u : Int) (hu0 : 0 ≤ u) (hu1 : u < hi - lo) : rd a (lo + u) = rd (pieceI a lo hi) u := by
 unfold rd pieceI
 rw [List.getD_eq_getElem?_getD, List.getD_eq_getElem?_getD, List.getElem?_drop, List.getElem?_take_of_lt (by omega), show (lo + u).toNat = lo.toNat + u.toNat by omega]
theorem cut_mid_C {w : World} {A : Option Addr} {c : Nat} {xs : List Int} (h : Kd.C (Kd.int .i64) w A xs.length xs) (hc : xs.length ≤ c) (lo hi : Int) (h0 : 0 ≤ lo) (h1 : lo ≤ hi) (h2 : hi ≤ xs.length) :
  ∃ (A' : Option Addr) (n' : Nat), n' = (pieceI xs lo hi).length ∧ (∀ W : World, (Instr.slice 50 (.slice A xs.length c) (some (.int .i64 lo)) (some (.int .i64 hi)) none).run Try.prog W = .ok (.slice A' n' (c - lo.toNat)) W) ∧
   Kd.C (Kd.int .i64) w A' n' (pieceI xs lo hi) ∧ n' ≤ c - lo.toNat := by
 obtain ⟨i0, hi0, hz0, hz1, hz2⟩ := info_parts (show (Try.prog.info? 3).map (fun i => (i.zero, i.size, i.bytes)) = some (some (.int .i64 0), 1, 8) by kernel_rfl)
 have hcut := cut_mid (P := Try.prog) 50 3 .i64 .i64 Try.underlying50 hi0 1 hz1 A xs.length c lo hi h0 h1 h2 hc
 have hm := Kd.C_mid (lo := lo.toNat) (hi := hi.toNat) h (by omega) (by omega) hc
 have hl : hi.toNat - lo.toNat = (pieceI xs lo hi).length := by have := pieceI_length h0 h1 h2; omega
 refine ⟨if c = lo.toNat then A else A.map (·.add (lo.toNat * 1)), _, rfl, fun W => ?_, ?_, ?_⟩
 ·rw [hcut W, hl]
 ·exact hm
 ·rw [← hl]; omega
theorem ends_quiet {A C : Option Addr} {ca cb n m : Nat} {xs ys : List Int} {w : World} (hn : n = xs.length) (hm : m = ys.length) (hA : Kd.C (Kd.int .i64) w A n xs) (hC : Kd.C (Kd.int .i64) w C m ys) (hca : n ≤ ca) (hcb : m ≤ cb) (hx : n ≤ 4000000000) (hy : m ≤ 4000000000) :
  Calls Try.prog 165 #[.slice A n ca, .slice C m cb] w fun e w' => e = .returned (.tuple #[.int .i64 (endsN xs ys), .int .i64 (endsM xs ys)]) ∧ ∃ k, w' = w.drewN k := by
 subst hn hm
 exact (ends_calls hA hC hca hcb hx hy).mono fun e w' ⟨he, hw⟩ => ⟨he, hw.out⟩
theorem ends_le (xs ys : List Int) : endsN xs ys + endsM xs ys ≤ xs.length ∧ endsN xs ys + endsM xs ys ≤ ys.length := by
 have h1 := pre_le xs ys
 have h2 := pre_le (xs.drop (pre xs ys)).reverse (ys.drop (pre xs ys)).reverse
 rw [List.length_reverse, List.length_reverse, List.length_drop, List.length_drop] at h2
 unfold endsN endsM
 omega
def findF (a b : List Int) : Nat → Int → Int → Int → Int → Option (List SP)
 | 0, _, _, _, _ => none
 | s + 1, a0, a1, b0, b1 =>
  if 0 ≤ a0 ∧ a0 ≤ a1 ∧ a1 ≤ a.length ∧ 0 ≤ b0 ∧ b0 ≤ b1 ∧ b1 ≤ b.length then
   (if a0 + endsN (pieceI a a0 a1) (pieceI b b0 b1) < a1 - endsM (pieceI a a0 a1) (pieceI b b0 b1) ∧ b0 + endsN (pieceI a a0 a1) (pieceI b b0 b1) < b1 - endsM (pieceI a a0 a1) (pieceI b b0 b1) then
    (middleF (pieceI a (a0 + endsN (pieceI a a0 a1) (pieceI b b0 b1)) (a1 - endsM (pieceI a a0 a1) (pieceI b b0 b1))) (pieceI b (b0 + endsN (pieceI a a0 a1) (pieceI b b0 b1)) (b1 - endsM (pieceI a a0 a1) (pieceI b b0 b1)))).bind fun r =>
     if 0 ≤ r.1 ∧ 0 ≤ r.2.1 ∧ 0 ≤ r.2.2 ∧ a0 + endsN (pieceI a a0 a1) (pieceI b b0 b1) + r.1 + r.2.2 ≤ a1 ∧ b0 + endsN (pieceI a a0 a1) (pieceI b b0 b1) + r.2.1 + r.2.2 ≤ b1 then
      (findF a b s (a0 + endsN (pieceI a a0 a1) (pieceI b b0 b1)) (a0 + endsN (pieceI a a0 a1) (pieceI b b0 b1) + r.1) (b0 + endsN (pieceI a a0 a1) (pieceI b b0 b1)) (b0 + endsN (pieceI a a0 a1) (pieceI b b0 b1) + r.2.1)).bind fun l1 =>
       (findF a b s (a0 + endsN (pieceI a a0 a1) (pieceI b b0 b1) + r.1 + r.2.2) (a1 - endsM (pieceI a a0 a1) (pieceI b b0 b1)) (b0 + endsN (pieceI a a0 a1) (pieceI b b0 b1) + r.2.1 + r.2.2) (b1 - endsM (pieceI a a0 a1) (pieceI b b0 b1))).bind fun l2 =>
        some (l1 ++ diagP (a0 + endsN (pieceI a a0 a1) (pieceI b b0 b1) + r.1) (b0 + endsN (pieceI a a0 a1) (pieceI b b0 b1) + r.2.1) r.2.2.toNat ++ l2)
     else none
   else some []).bind fun mid => some (diagP a0 b0 (endsN (pieceI a a0 a1) (pieceI b b0 b1)) ++ mid ++ diagP (a1 - endsM (pieceI a a0 a1) (pieceI b b0 b1)) (b1 - endsM (pieceI a a0 a1) (pieceI b b0 b1)) (endsM (pieceI a a0 a1) (pieceI b b0 b1)))
  else none
set_option maxHeartbeats 8000000 in
set_option maxRecDepth 100000 in
theorem find_calls {w0 : World} {f : Nat} {A C : Option Addr} {ca cb : Nat} {a b : List Int} (hA : Kd.C (Kd.int .i64) w0 A a.length a) (hC : Kd.C (Kd.int .i64) w0 C b.length b) (hca : a.length ≤ ca) (hcb : b.length ≤ cb) (hla : a.length ≤ 4000000000) (hlb : b.length ≤ 4000000000) :
  ∀ (s : Nat) (a0 a1 b0 b1 : Int) (r l : List SP) (w : World), findF a b s a0 a1 b0 b1 = some r → Fin w0.heap.size f (.slice A a.length ca) (.slice C b.length cb) l w → Below w0.heap.size w0 w → l.length + r.length ≤ 8000000000 →
  Calls Try.prog 155 #[.pointer (some ⟨f, 0, none⟩), .agg #[.int .i64 a0, .int .i64 a1, .int .i64 b0, .int .i64 b1]] w fun e w' =>
   e = .returned (.tuple #[]) ∧ Fin w0.heap.size f (.slice A a.length ca) (.slice C b.length cb) (l ++ r) w' ∧ Below w0.heap.size w w' ∧ Keeps 196 f w w' := by
 intro s
 induction s with
 | zero => intro a0 a1 b0 b1 r l w h; exact absurd h (by simp [findF])
 | succ s ih0 =>
  intro a0 a1 b0 b1 r l w h hF hB hlen
  rw [findF] at h
  split at h
  case isFalse => cases h
  case isTrue hrng =>
  obtain ⟨ha0, ha1, ha2, hb0, hb1, hb2⟩ := hrng
  have ih := Aside0.mk ih0
  obtain ⟨A1, n1, hn1, hcut1, hA1, hc1⟩ := cut_mid_C hA hca a0 a1 ha0 ha1 ha2
  obtain ⟨C1, m1, hm1, hcut2, hC1, hd1⟩ := cut_mid_C hC hcb b0 b1 hb0 hb1 hb2
  have hnz : (n1 : Int) = a1 - a0 := by rw [hn1]; exact pieceI_length ha0 ha1 ha2
  have hmz : (m1 : Int) = b1 - b0 := by rw [hm1]; exact pieceI_length hb0 hb1 hb2
  have hel := ends_le (pieceI a a0 a1) (pieceI b b0 b1)
  rw [← hn1, ← hm1] at hel
  have HEND := fun W => ends_quiet (A := A1) (C := C1) (ca := ca - a0.toNat) (cb := cb - b0.toNat) (w := W) hn1 hm1
  generalize endsN (pieceI a a0 a1) (pieceI b b0 b1) = en at *
  generalize endsM (pieceI a a0 a1) (pieceI b b0 b1) = em at *
  have HH := Aside0.mk h
  have HF := Aside0.mk hF
  have HBB := Aside0.mk hB
  have HL := Aside0.mk hlen
  have HA := Aside0.mk hA
  have HC := Aside0.mk hC
  have HA1 := Aside0.mk hA1
  have HC1 := Aside0.mk hC1
  have HE := Aside0.mk HEND
  have e1 : n1 ≤ 4000000000 := by omega
  have e2 : m1 ≤ 4000000000 := by omega
  have q0 := hF.c0
  have q1 := hF.c1
  have hflt := hF.lt
  have hel1 := hel.1
  have hel2 := hel.2
  clear h hF hB hlen ih0 hA hC hA1 hC1 HEND hn1 hm1 hel
  go_enter Try.func155, Try.ntmps155
  go_wp2
  go_quiet ((go_at_call 165; refine Calls.quiet_of (HE.out _ (Kd.C_drewN (Kd.C_alloc (Kd.C_below HA1.out HBB.out) _) _) (Kd.C_drewN (Kd.C_alloc (Kd.C_below HC1.out HBB.out) _) _) hc1 hd1 e1 e2)))
  have hbx : ((w.alloc (.cells #[.int .i64 a0, .int .i64 a1, .int .i64 b0, .int .i64 b1] 193)).drewN nq).heap[w.heap.size]? = some (.cells #[.int .i64 a0, .int .i64 a1, .int .i64 b0, .int .i64 b1] 193 (0, 0)) := World.alloc_heap_new w _
  have hbel := pw_below_drewN (below_alloc (Below.refl w.heap.size w) (.cells #[.int .i64 a0, .int .i64 a1, .int .i64 b0, .int .i64 b1] 193)) nq
  have HX := Aside0.mk hbx
  have hne : w.heap.size ≠ f := by omega
  have HF0 := Aside0.mk (HF.out.below hbel)
  have HB := Aside0.mk (hbel.mono HBB.out.size)
  have HK := Aside0.mk (Keeps.below (T := 196) (b := f) hbel)
  have hwf : w.heap.size < ((w.alloc (.cells #[.int .i64 a0, .int .i64 a1, .int .i64 b0, .int .i64 b1] 193)).drewN nq).heap.size := (Array.getElem?_eq_some_iff.1 hbx).1
  clear hbx hbel q0 q1 hcut1 hcut2
  generalize (w.alloc (.cells #[.int .i64 a0, .int .i64 a1, .int .i64 b0, .int .i64 b1] 193)).drewN nq = W0 at *
  obtain ⟨n3, hn3⟩ : ∃ n3, n3 = w.heap.size := ⟨_, rfl⟩
  rw [← hn3] at HX hne hwf ⊢
  have HBW : Aside0 (w0.heap.size ≤ W0.heap.size) := ⟨by have := HBB.out.size; have := HB.out.size; omega⟩
  have HRL : Aside0 (en + em ≤ 4000000000) := ⟨by omega⟩
  clear hn3
  have p0 := (blk_cell HX.out 0).trans (rfl : _ = some (Value.int .i64 a0))
  have p1 := (blk_cell HX.out 1).trans (rfl : _ = some (Value.int .i64 a1))
  have p2 := (blk_cell HX.out 2).trans (rfl : _ = some (Value.int .i64 b0))
  have p3 := (blk_cell HX.out 3).trans (rfl : _ = some (Value.int .i64 b1))
  have r0 : (0 : Int) ≤ (en : Int) := by omega
  have r1 : (0 : Int) ≤ (em : Int) := by omega
  have r2 : a0 + (en : Int) + em ≤ a1 := by omega
  have r3 : b0 + (en : Int) + em ≤ b1 := by omega
  have r4 : a1 ≤ 4000000000 := by omega
  have r5 : b1 ≤ 4000000000 := by omega
  have s1 : b0 ≤ 8000000000 := by omega
  have s2 : a0 ≤ 8000000000 := by omega
  have s3 : en ≤ 8000000000 := by omega
  have s4 : em ≤ 8000000000 := by omega
  have s5 : 0 ≤ a1 - (em : Int) := by omega
  have s6 : 0 ≤ b1 - (em : Int) := by omega
  have s7 : a1 - (em : Int) ≤ 8000000000 := by omega
  have s8 : b1 - (em : Int) ≤ 8000000000 := by omega
  have tk1 : True := trivial
  have tk2 : True := trivial
  have tk3 : True := trivial
  have hr := HH.out
  obtain ⟨mid, hmid, hr2⟩ := Option.bind_eq_some_iff.1 hr
  obtain rfl := Option.some.inj hr2
  clear hr hr2 HH
  have HMID := Aside0.mk hmid
  clear hmid
  have HLL : Aside0 (l.length + en + mid.length + em ≤ 8000000000) := ⟨by have := HL.out; simp only [List.length_append, diagP_length] at this; omega⟩
  have hl1 : l.length ≤ 8000000000 := by have := HLL.out; omega
  by_cases h1 : a0 + (en : Int) < a1 - em
  ·have h1b : decide (a0 + (en : Int) < a1 - em) = true := decide_eq_true h1
   by_cases h2 : b0 + (en : Int) < b1 - em
   ·have h2b : decide (b0 + (en : Int) < b1 - em) = true := decide_eq_true h2
    have hm := HMID.out
    rw [if_pos ⟨h1, h2⟩] at hm
    obtain ⟨⟨g0, g1, g2⟩, hmf, hm⟩ := Option.bind_eq_some_iff.1 hm
    simp only at hm
    split at hm
    case isFalse => cases hm
    case isTrue hg =>
    obtain ⟨hg0, hg1, hg2, hg3, hg4⟩ := hg
    obtain ⟨m2, rfl⟩ := Int.eq_ofNat_of_zero_le hg2
    obtain ⟨l1, hl1f, hm⟩ := Option.bind_eq_some_iff.1 hm
    obtain ⟨l2, hl2f, hm⟩ := Option.bind_eq_some_iff.1 hm
    obtain rfl := Option.some.inj hm
    rw [Int.toNat_natCast] at HLL
    have HMF := Aside0.mk hmf
    have HL1 := Aside0.mk hl1f
    have HL2 := Aside0.mk hl2f
    have HLA : Aside0 (l.length + en + (l1.length + m2 + l2.length) + em ≤ 8000000000) := ⟨by have := HLL.out; simp only [List.length_append, diagP_length] at this; omega⟩
    clear hm HMID hmf hl1f hl2f HLL
    have HXL := Aside0.mk (pieceI_length (a := a) (lo := a0 + (en : Int)) (hi := a1 - (em : Int)) (by omega) (by omega) (by omega))
    have HYL := Aside0.mk (pieceI_length (a := b) (lo := b0 + (en : Int)) (hi := b1 - (em : Int)) (by omega) (by omega) (by omega))
    have HXR := Aside0.mk (pieceI_rd (a := a) (lo := a0 + (en : Int)) (hi := a1 - (em : Int)) (by omega) (by omega))
    have HYR := Aside0.mk (pieceI_rd (a := b) (lo := b0 + (en : Int)) (hi := b1 - (em : Int)) (by omega) (by omega))
    have u0 : 0 ≤ a0 + (en : Int) := by omega
    have u1 : a0 + (en : Int) ≤ a1 - (em : Int) := by omega
    have u2 : a1 - (em : Int) ≤ a.length := by omega
    have v0 : 0 ≤ b0 + (en : Int) := by omega
    have v1 : b0 + (en : Int) ≤ b1 - (em : Int) := by omega
    have v2 : b1 - (em : Int) ≤ b.length := by omega
    have x0 : 0 ≤ a0 + (en : Int) + g0 := by omega
    have x1 : a0 + (en : Int) + g0 ≤ 8000000000 := by omega
    have x2 : 0 ≤ b0 + (en : Int) + g1 := by omega
    have x3 : b0 + (en : Int) + g1 ≤ 8000000000 := by omega
    have x4 : m2 ≤ 8000000000 := by omega
    have fk1 : True := trivial
    have fk2 : True := trivial
    go_wp2_with (first
     | (go_at_call 166; have _t := tk1; (with_reducible refine (same_calls a0 b0 en HF0.out ha0 s2 hb0 s1 s3 hl1 HBW.out).mono ?_); rintro e W1 ⟨rfl, hf1, hb1, hk1⟩; clear tk1; have HX1 := Aside0.mk (hk1.cell HX.out (by decide) hne); clear HX p0 p1 p2 p3; have p0 := (blk_cell HX1.out 0).trans (rfl : _ = some (Value.int .i64 a0)); have p1 := (blk_cell HX1.out 1).trans (rfl : _ = some (Value.int .i64 a1)); have p2 := (blk_cell HX1.out 2).trans (rfl : _ = some (Value.int .i64 b0)); have p3 := (blk_cell HX1.out 3).trans (rfl : _ = some (Value.int .i64 b1)); have HF1 := Aside0.mk hf1; have HB1 := Aside0.mk (Below.trans HB.out hb1); have HK1 := Aside0.mk (HK.out.trans hk1); have HBW1 := Aside0.mk (Nat.le_trans HBW.out hb1.size); clear hf1 hb1 hk1 HF0 HB HK HBW)
     | (go_at_call 167; (with_reducible refine (middle_calls (B := w0.heap.size) (f := f) (w := W1.alloc (.cells #[.int .i64 (a0 + (en : Int)), .int .i64 (a1 - (em : Int)), .int .i64 (b0 + (en : Int)), .int .i64 (b1 - (em : Int))] 193)) (a0 + (en : Int)) (a1 - (em : Int)) (b0 + (en : Int)) (b1 - (em : Int)) _ _ g0 g1 (m2 : Int) (HF1.out.below (below_alloc (Below.refl _ _) _)) (Kd.C_below HA.out (Below.alloc (Below.trans HBB.out HB1.out) HBW1.out _)) (Kd.C_below HC.out (Below.alloc (Below.trans HBB.out HB1.out) HBW1.out _)) u0 u1 u2 v0 v1 v2 hla hlb HXL.out HYL.out HXR.out HYR.out (Nat.le_trans HBW1.out (below_alloc (Below.refl _ _) _).size) HMF.out).mono ?_); rintro e W2 ⟨⟨dd, rfl⟩, hb2⟩; have H6 := Aside0.mk ((hb2.block _ (by rw [World.size_alloc]; omega)).trans (World.alloc_heap_new W1 (.cells #[.int .i64 (a0 + (en : Int)), .int .i64 (a1 - (em : Int)), .int .i64 (b0 + (en : Int)), .int .i64 (b1 - (em : Int))] 193))); have hb2' := below_step (below_alloc (Below.refl W1.heap.size W1) (.cells #[.int .i64 (a0 + (en : Int)), .int .i64 (a1 - (em : Int)), .int .i64 (b0 + (en : Int)), .int .i64 (b1 - (em : Int))] 193)) hb2; have HF2 := Aside0.mk (HF1.out.below hb2'); have HB2 := Aside0.mk (Below.trans HB1.out (hb2'.mono HBW1.out)); have HK2 := Aside0.mk (HK1.out.trans (Keeps.below hb2')); have HBW2 := Aside0.mk (Nat.le_trans HBW1.out hb2'.size); have HN6 := Aside0.mk (show W1.heap.size ≠ f from fun e => by have := HF1.out.lt; omega); clear hb2 hb2' HF1 HB1 HK1 HBW1 HX1 p0 p1 p2 p3; generalize W1.heap.size = n6 at *; have hn6 : n6 < W2.heap.size := (Array.getElem?_eq_some_iff.1 H6.out).1; have hn6' : n6 ≠ W2.heap.size := Nat.ne_of_lt hn6; have p0 := (blk_cell H6.out 0).trans (rfl : _ = some (Value.int .i64 (a0 + (en : Int)))); have p1 := (blk_cell H6.out 1).trans (rfl : _ = some (Value.int .i64 (a1 - (em : Int)))); have p2 := (blk_cell H6.out 2).trans (rfl : _ = some (Value.int .i64 (b0 + (en : Int)))); have p3 := (blk_cell H6.out 3).trans (rfl : _ = some (Value.int .i64 (b1 - (em : Int)))))
     | (go_at_call 155; have _t := fk1; (with_reducible refine (ih.out (a0 + (en : Int)) (a0 + (en : Int) + g0) (b0 + (en : Int)) (b0 + (en : Int) + g1) l1 _ (W2.alloc (.cells #[.int .i64 (a0 + (en : Int) + g0), .int .i64 (b0 + (en : Int) + g1), .int .i64 (m2 : Int), .int .i64 dd] 209)) HL1.out (HF2.out.below (below_alloc (Below.refl _ _) _)) (Below.alloc (Below.trans HBB.out HB2.out) HBW2.out _) ?fl1).mono ?_); (case fl1 => have := HLA.out; rw [List.length_append, diagP_length]; omega); rintro e W3 ⟨rfl, hf3, hb3, hk3⟩; clear fk1; have H6' := Aside0.mk (hk3.cell ((Lib.alloc_old W2 _ n6 (Array.getElem?_eq_some_iff.1 H6.out).1).trans H6.out) (by decide) HN6.out); have H7 := Aside0.mk (hk3.cell (World.alloc_heap_new W2 _) (by decide) (fun e => by have := HF2.out.lt; omega)); have HF3 := Aside0.mk hf3; have HB3 := Aside0.mk (Below.trans (HB2.out.alloc HBW2.out _) hb3); have HK3 := Aside0.mk ((HK2.out.alloc _).trans hk3); have HBW3 := Aside0.mk (Nat.le_trans (Nat.le_trans HBW2.out (below_alloc (Below.refl _ _) _).size) hb3.size); have HN7 := Aside0.mk (show W2.heap.size ≠ f from fun e => by have := HF2.out.lt; omega); clear hn6 hn6' hf3 hb3 hk3 HF2 HB2 HK2 HBW2 H6 p0 p1 p2 p3; generalize W2.heap.size = n7 at *; have p0 := (blk_cell H6'.out 0).trans (rfl : _ = some (Value.int .i64 (a0 + (en : Int)))); have p1 := (blk_cell H6'.out 1).trans (rfl : _ = some (Value.int .i64 (a1 - (em : Int)))); have p2 := (blk_cell H6'.out 2).trans (rfl : _ = some (Value.int .i64 (b0 + (en : Int)))); have p3 := (blk_cell H6'.out 3).trans (rfl : _ = some (Value.int .i64 (b1 - (em : Int)))); have o0 := (blk_cell H7.out 0).trans (rfl : _ = some (Value.int .i64 (a0 + (en : Int) + g0))); have o1 := (blk_cell H7.out 1).trans (rfl : _ = some (Value.int .i64 (b0 + (en : Int) + g1))); have o2 := (blk_cell H7.out 2).trans (rfl : _ = some (Value.int .i64 (m2 : Int))); have o3 := (blk_cell H7.out 3).trans (rfl : _ = some (Value.int .i64 dd)))
     | (go_at_call 166; have _t := tk2; have _t2 := H7; (with_reducible refine (same_calls (a0 + (en : Int) + g0) (b0 + (en : Int) + g1) m2 HF3.out x0 x1 x2 x3 x4 ?sl2 HBW3.out).mono ?_); (case sl2 => have := HLA.out; simp only [List.length_append, diagP_length]; omega); rintro e W4 ⟨rfl, hf4, hb4, hk4⟩; clear tk2; have H6'' := Aside0.mk (hk4.cell H6'.out (by decide) HN6.out); have H7'' := Aside0.mk (hk4.cell H7.out (by decide) HN7.out); have HF4 := Aside0.mk hf4; have HB4 := Aside0.mk (Below.trans HB3.out hb4); have HK4 := Aside0.mk (HK3.out.trans hk4); have HBW4 := Aside0.mk (Nat.le_trans HBW3.out hb4.size); clear hf4 hb4 hk4 HF3 HB3 HK3 HBW3 H6' H7 p0 p1 p2 p3 o0 o1 o2 o3; have p0 := (blk_cell H6''.out 0).trans (rfl : _ = some (Value.int .i64 (a0 + (en : Int)))); have p1 := (blk_cell H6''.out 1).trans (rfl : _ = some (Value.int .i64 (a1 - (em : Int)))); have p2 := (blk_cell H6''.out 2).trans (rfl : _ = some (Value.int .i64 (b0 + (en : Int)))); have p3 := (blk_cell H6''.out 3).trans (rfl : _ = some (Value.int .i64 (b1 - (em : Int)))); have o0 := (blk_cell H7''.out 0).trans (rfl : _ = some (Value.int .i64 (a0 + (en : Int) + g0))); have o1 := (blk_cell H7''.out 1).trans (rfl : _ = some (Value.int .i64 (b0 + (en : Int) + g1))); have o2 := (blk_cell H7''.out 2).trans (rfl : _ = some (Value.int .i64 (m2 : Int))); have o3 := (blk_cell H7''.out 3).trans (rfl : _ = some (Value.int .i64 dd)))
     | (go_at_call 155; have _t := fk2; (with_reducible refine (ih.out (a0 + (en : Int) + g0 + (m2 : Int)) (a1 - (em : Int)) (b0 + (en : Int) + g1 + (m2 : Int)) (b1 - (em : Int)) l2 _ W4 HL2.out HF4.out (Below.trans HBB.out HB4.out) ?fl2).mono ?_); (case fl2 => have := HLA.out; simp only [List.length_append, diagP_length]; omega); rintro e W5 ⟨rfl, hf5, hb5, hk5⟩; clear fk2; have H65 := Aside0.mk (hk5.cell H6''.out (by decide) HN6.out); have HF5 := Aside0.mk hf5; have HB5 := Aside0.mk (Below.trans HB4.out hb5); have HK5 := Aside0.mk (HK4.out.trans hk5); have HBW5 := Aside0.mk (Nat.le_trans HBW4.out hb5.size); clear hf5 hb5 hk5 HF4 HB4 HK4 HBW4 H6'' H7'' p0 p1 p2 p3 o0 o1 o2 o3; have p0 := (blk_cell H65.out 0).trans (rfl : _ = some (Value.int .i64 (a0 + (en : Int)))); have p1 := (blk_cell H65.out 1).trans (rfl : _ = some (Value.int .i64 (a1 - (em : Int)))); have p2 := (blk_cell H65.out 2).trans (rfl : _ = some (Value.int .i64 (b0 + (en : Int)))); have p3 := (blk_cell H65.out 3).trans (rfl : _ = some (Value.int .i64 (b1 - (em : Int)))))
     | (go_at_call 166; have _t := tk3; have _t2 := HF5; (with_reducible refine (same_calls (a1 - (em : Int)) (b1 - (em : Int)) em HF5.out s5 s7 s6 s8 s4 ?sl3 HBW5.out).mono ?_); (case sl3 => have := HLA.out; simp only [List.length_append, diagP_length]; omega); rintro e W6 ⟨rfl, hf6, hb6, hk6⟩; clear tk3))
    go_end0
    refine ⟨rfl, ?_, Below.trans HB5.out hb6, HK5.out.trans hk6⟩
    have e_ : l ++ (diagP a0 b0 en ++ (l1 ++ diagP (a0 + (en : Int) + g0) (b0 + (en : Int) + g1) (m2 : Int).toNat ++ l2) ++ diagP (a1 - (em : Int)) (b1 - (em : Int)) em) = l ++ diagP a0 b0 en ++ l1 ++ diagP (a0 + (en : Int) + g0) (b0 + (en : Int) + g1) m2 ++ l2 ++ diagP (a1 - (em : Int)) (b1 - (em : Int)) em := by simp only [List.append_assoc, Int.toNat_natCast]
    rw [e_]; exact hf6
   ·have h2b : decide (b0 + (en : Int) < b1 - em) = false := decide_eq_false h2
    have hm := HMID.out
    rw [if_neg (by omega)] at hm
    obtain rfl := Option.some.inj hm
    clear hm HMID
    have hl2 : (l ++ diagP a0 b0 en).length ≤ 8000000000 := by have := HLL.out; rw [List.length_append, diagP_length]; omega
    have HL2 := Aside0.mk hl2
    clear hl2
    go_wp2_with (first
     | (go_at_call 166; have _t := tk1; (with_reducible refine (same_calls a0 b0 en HF0.out ha0 s2 hb0 s1 s3 hl1 HBW.out).mono ?_); rintro e W1 ⟨rfl, hf1, hb1, hk1⟩; clear tk1; have HX1 := Aside0.mk (hk1.cell HX.out (by decide) hne); clear HX p0 p1 p2 p3; have p0 := (blk_cell HX1.out 0).trans (rfl : _ = some (Value.int .i64 a0)); have p1 := (blk_cell HX1.out 1).trans (rfl : _ = some (Value.int .i64 a1)); have p2 := (blk_cell HX1.out 2).trans (rfl : _ = some (Value.int .i64 b0)); have p3 := (blk_cell HX1.out 3).trans (rfl : _ = some (Value.int .i64 b1)); have HF1 := Aside0.mk hf1; have HB1 := Aside0.mk (Below.trans HB.out hb1); have HK1 := Aside0.mk (HK.out.trans hk1); have HBW1 := Aside0.mk (Nat.le_trans HBW.out hb1.size); clear hf1 hb1 hk1 HF0 HB HK HBW)
     | (go_at_call 166; have _t := tk2; (with_reducible refine (same_calls (a1 - (em : Int)) (b1 - (em : Int)) em (HF1.out.below (below_alloc (Below.refl _ _) _)) s5 s7 s6 s8 s4 HL2.out (Nat.le_trans HBW1.out (below_alloc (Below.refl _ _) _).size)).mono ?_); rintro e W2 ⟨rfl, hf2, hb2, hk2⟩; clear tk2))
    go_end0
    refine ⟨rfl, ?_, Below.trans (HB1.out.alloc HBW1.out _) hb2, (HK1.out.alloc _).trans hk2⟩
    rw [List.append_nil, ← List.append_assoc]; exact hf2
  ·have h1b : decide (a0 + (en : Int) < a1 - em) = false := decide_eq_false h1
   have hm := HMID.out
   rw [if_neg (by omega)] at hm
   obtain rfl := Option.some.inj hm
   clear hm HMID
   have hl2 : (l ++ diagP a0 b0 en).length ≤ 8000000000 := by have := HLL.out; rw [List.length_append, diagP_length]; omega
   have HL2 := Aside0.mk hl2
   clear hl2
   go_wp2_with (first
    | (go_at_call 166; have _t := tk1; (with_reducible refine (same_calls a0 b0 en HF0.out ha0 s2 hb0 s1 s3 hl1 HBW.out).mono ?_); rintro e W1 ⟨rfl, hf1, hb1, hk1⟩; clear tk1; have HX1 := Aside0.mk (hk1.cell HX.out (by decide) hne); clear HX p0 p1 p2 p3; have p0 := (blk_cell HX1.out 0).trans (rfl : _ = some (Value.int .i64 a0)); have p1 := (blk_cell HX1.out 1).trans (rfl : _ = some (Value.int .i64 a1)); have p2 := (blk_cell HX1.out 2).trans (rfl : _ = some (Value.int .i64 b0)); have p3 := (blk_cell HX1.out 3).trans (rfl : _ = some (Value.int .i64 b1)); have HF1 := Aside0.mk hf1; have HB1 := Aside0.mk (Below.trans HB.out hb1); have HK1 := Aside0.mk (HK.out.trans hk1); have HBW1 := Aside0.mk (Nat.le_trans HBW.out hb1.size); clear hf1 hb1 hk1 HF0 HB HK HBW)
    | (go_at_call 166; have _t := tk2; (with_reducible refine (same_calls (a1 - (em : Int)) (b1 - (em : Int)) em (HF1.out.below (below_alloc (Below.refl _ _) _)) s5 s7 s6 s8 s4 HL2.out (Nat.le_trans HBW1.out (below_alloc (Below.refl _ _) _).size)).mono ?_); rintro e W2 ⟨rfl, hf2, hb2, hk2⟩; clear tk2))
   go_end0
   refine ⟨rfl, ?_, Below.trans (HB1.out.alloc HBW1.out _) hb2, (HK1.out.alloc _).trans hk2⟩
   rw [List.append_nil, ← List.append_assoc]; exact hf2
end Go.Proofs.Ytfiamddinkokbaa.F
end

section
set_option linter.unusedVariables false
set_option linter.unusedSimpArgs false
namespace Go.Proofs.Ytfiamddinkokbaa.F
open Go.RowKit Go.Shelf Go.Proofs.YtfiamddinkokbaaW.PrintWords
set_option linter.unusedVariables false
set_option linter.unusedSimpArgs false
def matchF (a b : List Int) : Option (List SP) := findF a b (a.length + b.length + 1) 0 a.length 0 b.length
set_option maxHeartbeats 4000000 in
set_option maxRecDepth 100000 in
theorem match_calls (A0 : Option Addr) (c0 : Nat) (l0 : List Int) (A1 : Option Addr) (c1 : Nat) (l1 : List Int) (r : List SP) (w : World) (hr0 : Kd.C (Kd.int .i64) w A0 l0.length l0) (hc0 : l0.length ≤ c0) (hr1 : Kd.C (Kd.int .i64) w A1 l1.length l1) (hc1 : l1.length ≤ c1)
  (h : (if l0.length ≤ 4000000000 ∧ l1.length ≤ 4000000000 then (matchF l0 l1).bind (fun r => if r.length ≤ 8000000000 then some r else none) else none) = some r) :
  Calls Try.prog 132 #[.slice A0 l0.length c0, .slice A1 l1.length c1] w fun e w' => ∃ v0_ : Value, e = .returned (v0_) ∧ Kd.R k196 196 w' w.heap.size (fun _ => True) v0_ r ∧ Below w.heap.size w w' := by
 split at h
 case isFalse => cases h
 case isTrue hl =>
 obtain ⟨r', hm, h⟩ := Option.bind_eq_some_iff.1 h
 split at h
 case isFalse => cases h
 case isTrue hrl =>
 obtain rfl := Option.some.inj h
 have hf : Fin w.heap.size w.heap.size (.slice A0 l0.length c0) (.slice A1 l1.length c1) [] (w.alloc (.cells #[.slice A0 l0.length c0, .slice A1 l1.length c1, .slice none 0 0] 190)) := ⟨_, Nat.le_refl _, World.alloc_heap_new w _, Kd.R_nil _ _ _ _ _⟩
 have hb := below_alloc (Below.refl w.heap.size w) (.cells #[.slice A0 l0.length c0, .slice A1 l1.length c1, .slice none 0 0] 190)
 have HC := Aside0.mk (find_calls hr0 hr1 hc0 hc1 hl.1 hl.2 _ 0 l0.length 0 l1.length r' [] _ hm hf hb (by simpa using hrl))
 have HB := Aside0.mk hb
 clear hf hb hm hr0 hr1 h
 go_enter Try.func132, Try.ntmps132
 go_wp2_with (first | (go_at_call 155; refine HC.out.mono ?_; rintro e w1 ⟨rfl, ⟨v, hf0, hf1, hf2⟩, hb1, hk1⟩; have c2 := (blk_cell hf1 2).trans (rfl : _ = some v); have HR := Aside0.mk hf2; have HB1 := Aside0.mk (Below.trans HB.out hb1); obtain ⟨Av, cv, rfl⟩ := Kd.R_slice hf2; clear hf0 hf1 hf2 hb1 hk1))
 go_ret
 exact ⟨_, rfl, Kd.R_mono HR.out (fun _ _ => trivial), HB1.out⟩
end Go.Proofs.Ytfiamddinkokbaa.F
end

section
set_option linter.unusedVariables false
set_option linter.unusedSimpArgs false
namespace Go.Proofs.Ytfiamddinkokbaa.F
open Go.RowKit Go.Proofs.YtfiamddinkokbaaW.PrintWords Go.Proofs.YtfiamddinkokbaaW.PrintLast Go.Proofs.YtfiamddinkokbaaW.PrintMore
attribute [local go_sem] max2_int min2_int max_two min_two max_three min_three max_four min_four
set_option linter.unusedVariables false
set_option linter.unusedSimpArgs false
end Go.Proofs.Ytfiamddinkokbaa.F
end

section
set_option linter.unusedVariables false
set_option linter.unusedSimpArgs false
namespace Go.Proofs.Ytfiamddinkokbaa.F
open Go.RowKit Go.Proofs.YtfiamddinkokbaaW.PrintWords Go.Proofs.YtfiamddinkokbaaW.PrintLast Go.Proofs.YtfiamddinkokbaaW.PrintMore
attribute [local go_sem] max2_int min2_int max_two min_two max_three min_three max_four min_four
set_option linter.unusedVariables false
set_option linter.unusedSimpArgs false
end Go.Proofs.Ytfiamddinkokbaa.F
end

section
set_option linter.unusedVariables false
set_option linter.unusedSimpArgs false
namespace Go.Proofs.Ytfiamddinkokbaa.F
open Go.RowKit Go.Proofs.YtfiamddinkokbaaW.PrintWords Go.Proofs.YtfiamddinkokbaaW.PrintLast Go.Proofs.YtfiamddinkokbaaW.PrintMore
attribute [local go_sem] max2_int min2_int max_two min_two max_three min_three max_four min_four
set_option linter.unusedVariables false
set_option linter.unusedSimpArgs false
end Go.Proofs.Ytfiamddinkokbaa.F
end

section
set_option linter.unusedVariables false
set_option linter.unusedSimpArgs false
namespace Go.Proofs.Ytfiamddinkokbaa.F
open Go.RowKit Go.Proofs.YtfiamddinkokbaaW.PrintWords Go.Proofs.YtfiamddinkokbaaW.PrintLast Go.Proofs.YtfiamddinkokbaaW.PrintMore
attribute [local go_sem] max2_int min2_int max_two min_two max_three min_three max_four min_four
set_option linter.unusedVariables false
set_option linter.unusedSimpArgs false
def lines_Run.f (a0 : ByteArray) : Option Int := if a0.size ≤ 4000000000 then some ((runL a0.data.toList : Nat) : Int) else none
theorem lines_Run.calls (a0 : ByteArray) (r : Int) (w : World) (h : lines_Run.f a0 = some r) :
  Calls Try.prog 43 #[.string a0] w fun e w' => e = .returned (.int .i64 r) ∧ Below w.heap.size w w' := by
 exact ext_run a0 r w h
end Go.Proofs.Ytfiamddinkokbaa.F
end

section
set_option linter.unusedVariables false
set_option linter.unusedSimpArgs false
namespace Go.Proofs.Ytfiamddinkokbaa.F
open Go.RowKit Go.Proofs.YtfiamddinkokbaaW.PrintWords Go.Proofs.YtfiamddinkokbaaW.PrintLast Go.Proofs.YtfiamddinkokbaaW.PrintMore
attribute [local go_sem] max2_int min2_int max_two min_two max_three min_three max_four min_four
set_option linter.unusedVariables false
set_option linter.unusedSimpArgs false
mutual
def lines_Longest.l0 : Nat → Int → List (List ByteArray) → Int → Int → Option (Int)
 | 0, _, _, _, _ => none
 | k + 1, x3, x8, x9, x10 => if x10 < x9 then (if 0 ≤ x10 then (if x10 < (x8.length : Int) then (lines_Longest.l1 k x3 x8 x9 x10 (rd_L1 x8 x10) ((rd_L1 x8 x10).length : Int) 0) else (none)) else (none)) else (some x3)
def lines_Longest.l1 : Nat → Int → List (List ByteArray) → Int → Int → List ByteArray → Int → Int → Option (Int)
 | 0, _, _, _, _, _, _, _ => none
 | k + 1, x3, x8, x9, x10, x14, x15, x16 => if x16 < x15 then (if 0 ≤ x16 then (if x16 < (x14.length : Int) then ((lines_Run.f (rdOf ByteArray.empty x14 x16)).bind fun t103 => (lines_Longest.l1 k (mx x3 t103) x8 x9 x10 x14 x15 (wrap64 (x16 + 1)))) else (none)) else (none)) else (lines_Longest.l0 k x3 x8 x9 (wrap64 (x10 + 1)))
end
def lines_Longest.f (k : Nat) (l0 : List (List ByteArray)) : Option (Int) := lines_Longest.l0 k 0 l0 (l0.length : Int) 0
theorem lines_Longest.mono_l : ∀ k, (∀ y0 y1 y2 y3, LeO (lines_Longest.l0 k y0 y1 y2 y3) (lines_Longest.l0 (k + 1) y0 y1 y2 y3)) ∧ (∀ y0 y1 y2 y3 y4 y5 y6, LeO (lines_Longest.l1 k y0 y1 y2 y3 y4 y5 y6) (lines_Longest.l1 (k + 1) y0 y1 y2 y3 y4 y5 y6))
 | 0 => ⟨fun _ _ _ _ r h => by simp [lines_Longest.l0] at h, fun _ _ _ _ _ _ _ r h => by simp [lines_Longest.l1] at h⟩
 | k + 1 => by
  obtain ⟨ih0, ih1⟩ := lines_Longest.mono_l k
  refine ⟨?_, ?_⟩
  ·intro y0 y1 y2 y3
   unfold lines_Longest.l0
   repeat' first
   | (with_reducible exact ih0 _ _ _ _)
   | (with_reducible exact ih1 _ _ _ _ _ _ _)
   | (with_reducible exact LeO.refl _)
   | (with_reducible exact LeO.none _)
   | (with_reducible refine LeO.ite ?_ ?_)
   | (with_reducible refine LeO.bind ?_ (fun _ => ?_))
   | exact ih0 _ _ _ _
   | exact ih1 _ _ _ _ _ _ _
   | exact LeO.none _
   | refine LeO.ite ?_ ?_
   | refine LeO.bind ?_ (fun _ => ?_)
  ·intro y0 y1 y2 y3 y4 y5 y6
   unfold lines_Longest.l1
   repeat' first
   | (with_reducible exact ih0 _ _ _ _)
   | (with_reducible exact ih1 _ _ _ _ _ _ _)
   | (with_reducible exact LeO.refl _)
   | (with_reducible exact LeO.none _)
   | (with_reducible refine LeO.ite ?_ ?_)
   | (with_reducible refine LeO.bind ?_ (fun _ => ?_))
   | exact ih0 _ _ _ _
   | exact ih1 _ _ _ _ _ _ _
   | exact LeO.none _
   | refine LeO.ite ?_ ?_
   | refine LeO.bind ?_ (fun _ => ?_)
theorem lines_Longest.mono : ∀ a0 k, LeO (lines_Longest.f k a0) (lines_Longest.f (k + 1) a0) := by
 intro a0 k
 obtain ⟨ih0, ih1⟩ := lines_Longest.mono_l k
 unfold lines_Longest.f
 repeat' first
   | (with_reducible exact ih0 _ _ _ _)
   | (with_reducible exact ih1 _ _ _ _ _ _ _)
   | (with_reducible exact LeO.refl _)
   | (with_reducible exact LeO.none _)
   | (with_reducible refine LeO.ite ?_ ?_)
   | (with_reducible refine LeO.bind ?_ (fun _ => ?_))
   | exact ih0 _ _ _ _
   | exact ih1 _ _ _ _ _ _ _
   | exact LeO.none _
   | refine LeO.ite ?_ ?_
   | refine LeO.bind ?_ (fun _ => ?_)
set_option maxHeartbeats 8000000 in
set_option maxRecDepth 100000 in
theorem lines_Longest.calls (k : Nat) (A0 : Option Addr) (c0 : Nat) (l0 : List (List ByteArray)) (r : Int) (w : World) (hr0 : Kd.C (Kd.slice 9 Kd.string) w A0 l0.length l0) (hc0 : l0.length ≤ c0) (h : lines_Longest.f k l0 = some r) :
  Calls Try.prog 40 #[.slice A0 l0.length c0] w fun e w' => e = .returned (.int .i64 r) ∧ Below w.heap.size w w' := by
 have HR0 := Aside0.mk hr0
 have HC0 := Aside0.mk hc0
 clear hr0 hc0
 have HB := Aside0.mk (Below.refl w.heap.size w)
 have H : (lines_Longest.l0 k 0 l0 (l0.length : Int) 0) = some r := h
 clear h
 have H' := Aside0.mk H
 clear H
 go_enter Try.func40, Try.ntmps40
 go_wp2
 go_loopg [3, 10] k (fun kq v3 v10 w' => ∃ (x3_1 : Int) (x10_1 : Int), v3 = .int .i64 x3_1 ∧ v10 = .int .i64 x10_1 ∧ Aside0 (lines_Longest.l0 kq x3_1 l0 (l0.length : Int) x10_1 = some r) ∧ Aside0 (kq ≤ k) ∧ Aside0 (Below w.heap.size w w'))
 case atStart => exact ⟨(0), (0), (by first | rfl | (simp; done) | (simp [*]; done)), (by first | rfl | (simp; done) | (simp [*]; done)), H', ⟨Nat.le_refl _⟩, ⟨by repeat (first | (with_reducible first | exact HB.out | apply below_alloc | apply pw_below_drewN | apply below_drew1) | exact HB.out)⟩⟩
 case round =>
  clear H'
  obtain ⟨x3_1, x10_1, rfl, rfl, HA, HK1, HB⟩ := hrel
  cases gk with
  | zero => exact absurd HA.out (by simp [lines_Longest.l0])
  | succ k1 =>
   have H := HA.out
   clear HA
   simp only [lines_Longest.l0] at H
   by_cases c2 : x10_1 < (l0.length : Int)
   ·rw [if_pos c2] at H
    have c2b0 : decide (x10_1 < (l0.length : Int)) = true := decide_eq_true c2
    clear c2
    by_cases c3 : 0 ≤ x10_1
    ·rw [if_pos c3] at H
     have c3b0 : decide (0 ≤ x10_1) = true := decide_eq_true c3
     clear c3
     by_cases c4 : x10_1 < (l0.length : Int)
     ·rw [if_pos c4] at H
      have c4b0 : decide (x10_1 < (l0.length : Int)) = true := decide_eq_true c4
      clear c4
      have H' := Aside0.mk H
      clear H
      have p101 : 0 ≤ (x10_1 : Int) := of_decide_eq_true (by first | (with_reducible assumption) | assumption)
      have q101 : x10_1 < (l0.length : Int) := of_decide_eq_true (by first | (with_reducible assumption) | assumption)
      obtain ⟨ad101, A101_0, c101_0, e101, hx101_0, hl101_0, hi101_0⟩ := at_L1 HR0.out x10_1 p101 q101
      cases e101
      replace hx101_0 := (HB.out.cell (World.block_lt_of_cell? w _ hx101_0)).trans hx101_0
      have HR101_0 := Aside0.mk hi101_0
      have HC101_0 := Aside0.mk hl101_0
      clear hi101_0 hl101_0
      replace p101 := eq_true p101
      replace q101 := eq_true q101
      go_wp2
      go_loopg [3, 16] k1 (fun kq v3 v16 w' => ∃ (x3_2 : Int) (x16_2 : Int), v3 = .int .i64 x3_2 ∧ v16 = .int .i64 x16_2 ∧ Aside0 (lines_Longest.l1 kq x3_2 l0 (l0.length : Int) x10_1 (rd_L1 l0 x10_1) ((rd_L1 l0 x10_1).length : Int) x16_2 = some r) ∧ Aside0 (kq ≤ k1) ∧ Aside0 (Below w.heap.size w w'))
      case atStart => exact ⟨(x3_1), (0), (by first | rfl | (simp; done) | (simp [*]; done)), (by first | rfl | (simp; done) | (simp [*]; done)), H', ⟨Nat.le_refl _⟩, ⟨by repeat (first | (with_reducible first | exact HB.out | apply below_alloc | apply pw_below_drewN | apply below_drew1) | exact HB.out)⟩⟩
      case round =>
       clear H'
       try clear c1
       try clear p1
       try clear q1
       try clear hx1
       try clear c2
       try clear c2b0
       try clear p2
       try clear c3
       try clear c3b0
       try clear c4
       try clear c4b0
       try clear hx101_0
       try clear p101
       try clear q101
       obtain ⟨x3_2, x16_2, rfl, rfl, HA, HK2, HB⟩ := hrel
       cases gk with
       | zero => exact absurd HA.out (by simp [lines_Longest.l1])
       | succ k2 =>
        have H := HA.out
        clear HA
        simp only [lines_Longest.l1] at H
        by_cases c5 : x16_2 < ((rd_L1 l0 x10_1).length : Int)
        ·rw [if_pos c5] at H
         have c5b0 : decide (x16_2 < ((rd_L1 l0 x10_1).length : Int)) = true := decide_eq_true c5
         clear c5
         by_cases c6 : 0 ≤ x16_2
         ·rw [if_pos c6] at H
          have c6b0 : decide (0 ≤ x16_2) = true := decide_eq_true c6
          clear c6
          by_cases c7 : x16_2 < ((rd_L1 l0 x10_1).length : Int)
          ·rw [if_pos c7] at H
           have c7b0 : decide (x16_2 < ((rd_L1 l0 x10_1).length : Int)) = true := decide_eq_true c7
           clear c7
           replace H := Option.bind_eq_some_iff.mp H
           obtain ⟨t103, A80, H⟩ := H
           replace H : (lines_Longest.l1 k2 (mx x3_2 t103) l0 (l0.length : Int) x10_1 (rd_L1 l0 x10_1) ((rd_L1 l0 x10_1).length : Int) (wrap64 (x16_2 + 1))) = some r := H
           have A8 := Aside0.mk A80
           clear A80
           obtain ⟨ji9, hji9⟩ : ∃ j_ : Int, (mx x3_2 t103) = j_ := ⟨_, rfl⟩
           replace H : (lines_Longest.l1 k2 ji9 l0 (l0.length : Int) x10_1 (rd_L1 l0 x10_1) ((rd_L1 l0 x10_1).length : Int) (wrap64 (x16_2 + 1))) = some r := by first | (rw [hji9] at H; exact H) | (simp only [hji9] at H ⊢; exact H)
           (try rw [hji9] at A8)
           have hji9_ : (if x3_2 < t103 then t103 else x3_2) = ji9 := hji9
           have H' := Aside0.mk H
           clear H
           have p102 : 0 ≤ (x16_2 : Int) := of_decide_eq_true (by first | (with_reducible assumption) | assumption)
           have q102 : x16_2 < ((rd_L1 l0 x10_1).length : Int) := of_decide_eq_true (by first | (with_reducible assumption) | assumption)
           obtain ⟨ad102, e102, hx102_0⟩ := Kd.at_string HR101_0.out x16_2 p102 q102
           cases e102
           replace hx102_0 := (HB.out.cell (World.block_lt_of_cell? w _ hx102_0)).trans hx102_0
           replace p102 := eq_true p102
           replace q102 := eq_true q102
           go_wp2_with (first | ((with_reducible refine gate_callee (f := 43) rfl ?_); refine goesL_ (some 22) rfl rfl Try.func43 (by kernel_rfl) rfl #[.string (rdOf ByteArray.empty (rd_L1 l0 x10_1) x16_2)] rfl (by (try simp only [List.map_toArray, List.map_cons, List.map_nil]); first | done | rfl | (simp only [List.length_drop, List.length_take]; rfl)) ?_; (with_reducible refine (lines_Run.calls (rdOf ByteArray.empty (rd_L1 l0 x10_1) x16_2) t103 _ A8.out).mono ?_); rintro e w10 ⟨rfl, hb⟩; refine ⟨_, rfl, ?_⟩; have n0_ := Aside0.mk (below_step (by repeat (first | (with_reducible first | exact HB.out | apply below_alloc | apply pw_below_drewN | apply below_drew1) | exact HB.out)) hb); clear HB; have HB := n0_; clear n0_; (try clear hb); (try clear hb2); (try clear hk); (try clear hi)))
           go_roundg k2
           case measure => have := HK1.out; have := HK2.out; omega
           case rel => exact ⟨(ji9), (wrap64 (x16_2 + 1)), (by first | rfl | (simp; done) | (simp only [← hji9] <;> (first | rfl | simp)) | (simp [*]; done)), (by first | rfl | (simp; done) | (simp [*]; done)), H', ⟨by have := HK1.out; have := HK2.out; omega⟩, ⟨by repeat (first | (with_reducible first | exact HB.out | apply below_alloc | apply pw_below_drewN | apply below_drew1) | exact HB.out)⟩⟩
          ·rw [if_neg c7] at H
           exact absurd H (by simp)
         ·rw [if_neg c6] at H
          exact absurd H (by simp)
        ·rw [if_neg c5] at H
         have c5b0 : decide (x16_2 < ((rd_L1 l0 x10_1).length : Int)) = false := decide_eq_false c5
         clear c5
         have H' := Aside0.mk H
         clear H
         go_wp2
         go_roundg k2
         case measure => have := HK1.out; have := HK2.out; omega
         case rel => exact ⟨(x3_2), (wrap64 (x10_1 + 1)), (by first | rfl | (simp; done) | (simp [*]; done)), (by first | rfl | (simp; done) | (simp [*]; done)), H', ⟨by have := HK1.out; have := HK2.out; omega⟩, ⟨by repeat (first | (with_reducible first | exact HB.out | apply below_alloc | apply pw_below_drewN | apply below_drew1) | exact HB.out)⟩⟩
     ·rw [if_neg c4] at H
      exact absurd H (by simp)
    ·rw [if_neg c3] at H
     exact absurd H (by simp)
   ·rw [if_neg c2] at H
    have c2b0 : decide (x10_1 < (l0.length : Int)) = false := decide_eq_false c2
    clear c2
    obtain rfl := Option.some.inj H
    go_wp2
    go_ret
    exact ⟨by first | rfl | (simp [errW_none, errW_some] <;> rfl) | (simp [*, errW_none, errW_some] <;> rfl), by repeat (first | (with_reducible first | exact HB.out | apply below_alloc | apply pw_below_drewN | apply below_drew1) | exact HB.out)⟩
end Go.Proofs.Ytfiamddinkokbaa.F
end

section
set_option linter.unusedVariables false
set_option linter.unusedSimpArgs false
namespace Go.Proofs.Ytfiamddinkokbaa.F
open Go.RowKit Go.Proofs.YtfiamddinkokbaaW.PrintWords Go.Proofs.YtfiamddinkokbaaW.PrintLast Go.Proofs.YtfiamddinkokbaaW.PrintMore
attribute [local go_sem] max2_int min2_int max_two min_two max_three min_three max_four min_four
set_option linter.unusedVariables false
set_option linter.unusedSimpArgs false
def lines_Split.f (a0 : ByteArray) : Option (List ByteArray) := if a0.size ≤ 4000000000 then some (splitB a0) else none
theorem lines_Split.calls (a0 : ByteArray) (r : List ByteArray) (w : World) (h : lines_Split.f a0 = some r) :
  Calls Try.prog 29 #[.string a0] w fun e w' => ∃ v0_ : Value, e = .returned (v0_) ∧ Kd.R Kd.string 9 w' w.heap.size (fun _ => True) v0_ r ∧ Below w.heap.size w w' := by
 exact ext_split a0 r w h
end Go.Proofs.Ytfiamddinkokbaa.F
end

section
set_option linter.unusedVariables false
set_option linter.unusedSimpArgs false
namespace Go.Proofs.Ytfiamddinkokbaa.F
open Go.RowKit Go.Proofs.YtfiamddinkokbaaW.PrintWords Go.Proofs.YtfiamddinkokbaaW.PrintLast Go.Proofs.YtfiamddinkokbaaW.PrintMore
attribute [local go_sem] max2_int min2_int max_two min_two max_three min_three max_four min_four
set_option linter.unusedVariables false
set_option linter.unusedSimpArgs false
def doc_run.l0 : Nat → Int → List ByteArray → Int → Int → Option (Int)
 | 0, _, _, _, _ => none
 | k + 1, x3, x6, x7, x8 => if x8 < x7 then (if 0 ≤ x8 then (if x8 < (x6.length : Int) then ((lines_Split.f (rdOf ByteArray.empty x6 x8)).bind fun t105 => ((lines_Longest.f k (([t105] : List (List ByteArray)))).bind fun t111 => (doc_run.l0 k (mx x3 t111) x6 x7 (wrap64 (x8 + 1))))) else (none)) else (none)) else (some x3)
def doc_run.f (k : Nat) (l0 : List ByteArray) : Option (Int) := doc_run.l0 k 0 l0 (l0.length : Int) 0
theorem doc_run.mono_l : ∀ k, (∀ y0 y1 y2 y3, LeO (doc_run.l0 k y0 y1 y2 y3) (doc_run.l0 (k + 1) y0 y1 y2 y3))
 | 0 => fun _ _ _ _ r h => by simp [doc_run.l0] at h
 | k + 1 => by
  have ih0 := doc_run.mono_l k
  ·intro y0 y1 y2 y3
   unfold doc_run.l0
   repeat' first
   | (with_reducible exact ih0 _ _ _ _)
   | (with_reducible exact lines_Longest.mono _ _)
   | (with_reducible exact LeO.refl _)
   | (with_reducible exact LeO.none _)
   | (with_reducible refine LeO.ite ?_ ?_)
   | (with_reducible refine LeO.bind ?_ (fun _ => ?_))
   | exact ih0 _ _ _ _
   | exact lines_Longest.mono _ _
   | exact LeO.none _
   | refine LeO.ite ?_ ?_
   | refine LeO.bind ?_ (fun _ => ?_)
theorem doc_run.mono : ∀ a0 k, LeO (doc_run.f k a0) (doc_run.f (k + 1) a0) := by
 intro a0 k
 have ih0 := doc_run.mono_l k
 unfold doc_run.f
 repeat' first
   | (with_reducible exact ih0 _ _ _ _)
   | (with_reducible exact lines_Longest.mono _ _)
   | (with_reducible exact LeO.refl _)
   | (with_reducible exact LeO.none _)
   | (with_reducible refine LeO.ite ?_ ?_)
   | (with_reducible refine LeO.bind ?_ (fun _ => ?_))
   | exact ih0 _ _ _ _
   | exact lines_Longest.mono _ _
   | exact LeO.none _
   | refine LeO.ite ?_ ?_
   | refine LeO.bind ?_ (fun _ => ?_)
set_option maxHeartbeats 8000000 in
set_option maxRecDepth 100000 in
theorem doc_run.calls (k : Nat) (A0 : Option Addr) (c0 : Nat) (l0 : List ByteArray) (r : Int) (w : World) (hr0 : Kd.C Kd.string w A0 l0.length l0) (hc0 : l0.length ≤ c0) (h : doc_run.f k l0 = some r) :
  Calls Try.prog 71 #[.slice A0 l0.length c0] w fun e w' => e = .returned (.int .i64 r) ∧ Below w.heap.size w w' := by
 have HR0 := Aside0.mk hr0
 have HC0 := Aside0.mk hc0
 clear hr0 hc0
 have HB := Aside0.mk (Below.refl w.heap.size w)
 have H : (doc_run.l0 k 0 l0 (l0.length : Int) 0) = some r := h
 clear h
 have H' := Aside0.mk H
 clear H
 go_enter Try.func71, Try.ntmps71
 go_wp2
 go_loopg [3, 8] k (fun kq v3 v8 w' => ∃ (x3_1 : Int) (x8_1 : Int), v3 = .int .i64 x3_1 ∧ v8 = .int .i64 x8_1 ∧ Aside0 (doc_run.l0 kq x3_1 l0 (l0.length : Int) x8_1 = some r) ∧ Aside0 (kq ≤ k) ∧ Aside0 (Below w.heap.size w w'))
 case atStart => exact ⟨(0), (0), (by first | rfl | (simp; done) | (simp [*]; done)), (by first | rfl | (simp; done) | (simp [*]; done)), H', ⟨Nat.le_refl _⟩, ⟨by repeat (first | (with_reducible first | exact HB.out | apply below_alloc | apply pw_below_drewN | apply below_drew1) | exact HB.out)⟩⟩
 case round =>
  clear H'
  obtain ⟨x3_1, x8_1, rfl, rfl, HA, HK1, HB⟩ := hrel
  cases gk with
  | zero => exact absurd HA.out (by simp [doc_run.l0])
  | succ k1 =>
   have H := HA.out
   clear HA
   simp only [doc_run.l0] at H
   by_cases c2 : x8_1 < (l0.length : Int)
   ·rw [if_pos c2] at H
    have c2b0 : decide (x8_1 < (l0.length : Int)) = true := decide_eq_true c2
    clear c2
    by_cases c3 : 0 ≤ x8_1
    ·rw [if_pos c3] at H
     have c3b0 : decide (0 ≤ x8_1) = true := decide_eq_true c3
     clear c3
     by_cases c4 : x8_1 < (l0.length : Int)
     ·rw [if_pos c4] at H
      have c4b0 : decide (x8_1 < (l0.length : Int)) = true := decide_eq_true c4
      clear c4
      replace H := Option.bind_eq_some_iff.mp H
      obtain ⟨t105, A50, H⟩ := H
      replace H : ((lines_Longest.f k1 (([t105] : List (List ByteArray)))).bind fun t111 => (doc_run.l0 k1 (mx x3_1 t111) l0 (l0.length : Int) (wrap64 (x8_1 + 1)))) = some r := H
      have A5 := Aside0.mk A50
      clear A50
      obtain ⟨y108, hy108⟩ : ∃ y_ : List (List ByteArray), y_ = (([t105] : List (List ByteArray))) := ⟨_, rfl⟩
      replace H : ((lines_Longest.f k1 y108).bind fun t111 => (doc_run.l0 k1 (mx x3_1 t111) l0 (l0.length : Int) (wrap64 (x8_1 + 1)))) = some r := by first | (rw [hy108]; with_reducible exact H) | (have H2_ := (Option.bind_some _ _).symm.trans H; rw [hy108]; with_reducible exact H2_) | (have H2_ := (Option.bind_some _ _).symm.trans H; with_reducible exact H2_) | with_reducible exact H | (rw [hy108]; exact H) | exact H
      have Ny108 := Aside0.mk hy108
      clear hy108
      replace H := Option.bind_eq_some_iff.mp H
      obtain ⟨t111, A60, H⟩ := H
      replace H : (doc_run.l0 k1 (mx x3_1 t111) l0 (l0.length : Int) (wrap64 (x8_1 + 1))) = some r := H
      have A6 := Aside0.mk A60
      clear A60
      obtain ⟨ji7, hji7⟩ : ∃ j_ : Int, (mx x3_1 t111) = j_ := ⟨_, rfl⟩
      replace H : (doc_run.l0 k1 ji7 l0 (l0.length : Int) (wrap64 (x8_1 + 1))) = some r := by first | (rw [hji7] at H; exact H) | (simp only [hji7] at H ⊢; exact H)
      (try rw [hji7] at A5)
      (try rw [hji7] at A6)
      have hji7_ : (if x3_1 < t111 then t111 else x3_1) = ji7 := hji7
      have H' := Aside0.mk H
      clear H
      have p104 : 0 ≤ (x8_1 : Int) := of_decide_eq_true (by first | (with_reducible assumption) | assumption)
      have q104 : x8_1 < (l0.length : Int) := of_decide_eq_true (by first | (with_reducible assumption) | assumption)
      obtain ⟨ad104, e104, hx104_0⟩ := Kd.at_string HR0.out x8_1 p104 q104
      cases e104
      replace hx104_0 := (HB.out.cell (World.block_lt_of_cell? w _ hx104_0)).trans hx104_0
      replace p104 := eq_true p104
      replace q104 := eq_true q104
      go_wp2_with (first | ((with_reducible refine gate_callee (f := 29) rfl ?_); refine goesL_ (some 14) rfl rfl Try.func29 (by kernel_rfl) rfl #[.string (rdOf ByteArray.empty l0 x8_1)] rfl (by (try simp only [List.map_toArray, List.map_cons, List.map_nil]); first | done | rfl | (simp only [List.length_drop, List.length_take]; rfl)) ?_; (with_reducible refine (lines_Split.calls (rdOf ByteArray.empty l0 x8_1) t105 _ A5.out).mono ?_); rintro e w8 ⟨v106, rfl, ho0, hb⟩; refine ⟨_, rfl, ?_⟩; have n0_ := Aside0.mk (Kd.R_lower ho0 (below_size (by repeat (first | (with_reducible first | exact HB.out | apply below_alloc | apply pw_below_drewN | apply below_drew1) | exact HB.out)))); have n1_ := Aside0.mk (below_step (by repeat (first | (with_reducible first | exact HB.out | apply below_alloc | apply pw_below_drewN | apply below_drew1) | exact HB.out)) hb); clear HB; have HO107 := n0_; have HB := n1_; clear n0_ n1_; (try clear hb); (try clear hb2); (try clear hk); (try clear hi); (try clear ho0); obtain ⟨Ao9, co9, eo9⟩ := Kd.R_slice HO107.out; subst eo9) | ((with_reducible refine gate_dst (N := 15) rfl ?_); refine Kd.N_lit (Kd.slice 9 Kd.string) _ 36 ?hg (N' := 15) ?hd (xs := ([t105] : List (List ByteArray))) (inner := [.slice Ao9 t105.length co9]) (ok := (fun _ => True)) (okp := (fun _ => True)) ?hr ?hp (fun _ hk => hk) ((show ∀ k_, w8.heap.size ≤ k_ → (fun _ => True) k_ from fun k_ hk => trivial) _ (Nat.le_refl _)) (Below.refl _ _) (Nat.le_refl _) (by simp) ?_; (case hd => rfl); (case hg => rfl); (case hr => first | (go_simp; done) | (go_simp; rfl)); (case hp => exact (Reps.one (show Kd.FK (Kd.slice 9 Kd.string) _ _ t105 [.slice Ao9 t105.length co9] from (Kd.FK_slice_mk (Kd.R_reads' (Kd.R_mono (ok' := (fun _ => True)) (HO107.out) (fun k_ hk => trivial))).2.1 (Kd.R_F (Kd.R_mono (ok' := (fun _ => True)) (HO107.out) (fun k_ hk => trivial))))) (Reps.none _ _))); intro v109 w10 ho11 hb hg_ hnew_; clear hg_ hnew_; (first | rw [← Ny108.out] at ho11 | (simp only [Int.reduceToNat] at ho11; rw [← Ny108.out] at ho11)); have n0_ := Aside0.mk (Kd.N_lower ho11 (below_size (by repeat (first | (with_reducible first | exact HB.out | apply below_alloc | apply pw_below_drewN | apply below_drew1) | exact HB.out)))); have n1_ := Aside0.mk (below_step (by repeat (first | (with_reducible first | exact HB.out | apply below_alloc | apply pw_below_drewN | apply below_drew1) | exact HB.out)) hb); clear HB; clear HO107; have HO110 := n0_; have HB := n1_; clear n0_ n1_; clear hb ho11; obtain ⟨Ao12, co12, eo12⟩ := Kd.N_slice HO110.out; subst eo12) | ((with_reducible refine gate_callee (f := 40) rfl ?_); refine goesL_ (some 16) rfl rfl Try.func40 (by kernel_rfl) rfl #[.slice Ao12 y108.length co12] rfl (by (try simp only [List.map_toArray, List.map_cons, List.map_nil]); first | done | rfl | (simp only [List.length_drop, List.length_take]; rfl)) ?_; (with_reducible refine (lines_Longest.calls k1 _ _ y108 t111 _ ?side1 ?side2 A6.out).mono ?_); (case side1 => repeat (first | exact (Kd.N_reads' HO110.out).2.2 | (with_reducible refine Kd.C_alloc ?_ _) | (with_reducible refine Kd.C_drewN ?_ _) | (with_reducible refine Kd.C_drew ?_))); (case side2 => exact (Kd.N_reads' HO110.out).2.1); rintro e w13 ⟨rfl, hb⟩; refine ⟨_, rfl, ?_⟩; have n0_ := Aside0.mk (Kd.N_below (by (with_reducible repeat (first | apply Kd.N_alloc | apply Kd.N_drewN | apply Kd.N_drew)); exact HO110.out) hb); have n1_ := Aside0.mk (below_step (by repeat (first | (with_reducible first | exact HB.out | apply below_alloc | apply pw_below_drewN | apply below_drew1) | exact HB.out)) hb); clear HO110; clear HB; have HO110 := n0_; have HB := n1_; clear n0_ n1_; (try clear hb); (try clear hb2); (try clear hk); (try clear hi)))
      go_roundg k1
      case measure => have := HK1.out; omega
      case rel => exact ⟨(ji7), (wrap64 (x8_1 + 1)), (by first | rfl | (simp; done) | (simp only [← hji7] <;> (first | rfl | simp)) | (simp [*]; done)), (by first | rfl | (simp; done) | (simp [*]; done)), H', ⟨by have := HK1.out; omega⟩, ⟨by repeat (first | (with_reducible first | exact HB.out | apply below_alloc | apply pw_below_drewN | apply below_drew1) | exact HB.out)⟩⟩
     ·rw [if_neg c4] at H
      exact absurd H (by simp)
    ·rw [if_neg c3] at H
     exact absurd H (by simp)
   ·rw [if_neg c2] at H
    have c2b0 : decide (x8_1 < (l0.length : Int)) = false := decide_eq_false c2
    clear c2
    obtain rfl := Option.some.inj H
    go_wp2
    go_ret
    exact ⟨by first | rfl | (simp [errW_none, errW_some] <;> rfl) | (simp [*, errW_none, errW_some] <;> rfl), by repeat (first | (with_reducible first | exact HB.out | apply below_alloc | apply pw_below_drewN | apply below_drew1) | exact HB.out)⟩
end Go.Proofs.Ytfiamddinkokbaa.F
end

section
set_option linter.unusedVariables false
set_option linter.unusedSimpArgs false
namespace Go.Proofs.Ytfiamddinkokbaa.F
open Go.RowKit Go.Proofs.YtfiamddinkokbaaW.PrintWords Go.Proofs.YtfiamddinkokbaaW.PrintLast Go.Proofs.YtfiamddinkokbaaW.PrintMore
attribute [local go_sem] max2_int min2_int max_two min_two max_three min_three max_four min_four
set_option linter.unusedVariables false
set_option linter.unusedSimpArgs false
def doc_Width.f (k : Nat) (a0 : Int) (l1 : List ByteArray) : Option (Int) := (doc_run.f k l1).bind fun t112 => (some (mx a0 (wrap64 (t112 + 1))))
theorem doc_Width.mono : ∀ a0 a1 k, LeO (doc_Width.f k a0 a1) (doc_Width.f (k + 1) a0 a1) := by
 intro a0 a1 k
 unfold doc_Width.f
 repeat' first
   | (with_reducible exact doc_run.mono _ _)
   | (with_reducible exact LeO.refl _)
   | (with_reducible exact LeO.none _)
   | (with_reducible refine LeO.ite ?_ ?_)
   | (with_reducible refine LeO.bind ?_ (fun _ => ?_))
   | exact doc_run.mono _ _
   | exact LeO.none _
   | refine LeO.ite ?_ ?_
   | refine LeO.bind ?_ (fun _ => ?_)
set_option maxHeartbeats 8000000 in
set_option maxRecDepth 100000 in
theorem doc_Width.calls (k : Nat) (a0 : Int) (A1 : Option Addr) (c1 : Nat) (l1 : List ByteArray) (r : Int) (w : World) (hr1 : Kd.C Kd.string w A1 l1.length l1) (hc1 : l1.length ≤ c1) (h : doc_Width.f k a0 l1 = some r) :
  Calls Try.prog 19 #[.int .i64 a0, .slice A1 l1.length c1] w fun e w' => e = .returned (.int .i64 r) ∧ Below w.heap.size w w' := by
 have HR1 := Aside0.mk hr1
 have HC1 := Aside0.mk hc1
 clear hr1 hc1
 have HB := Aside0.mk (Below.refl w.heap.size w)
 have H : ((doc_run.f k l1).bind fun t112 => (some (mx a0 (wrap64 (t112 + 1))))) = some r := h
 clear h
 replace H := Option.bind_eq_some_iff.mp H
 obtain ⟨t112, A30, H⟩ := H
 replace H : (some (mx a0 (wrap64 (t112 + 1)))) = some r := H
 have A3 := Aside0.mk A30
 clear A30
 obtain ⟨ji4, hji4⟩ : ∃ j_ : Int, (mx a0 (wrap64 (t112 + 1))) = j_ := ⟨_, rfl⟩
 replace H : (some ji4) = some r := by first | (rw [hji4] at H; exact H) | (simp only [hji4] at H ⊢; exact H)
 (try rw [hji4] at A3)
 have hji4_ : (if a0 < (wrap64 (t112 + 1)) then (wrap64 (t112 + 1)) else a0) = ji4 := hji4
 obtain rfl := Option.some.inj H
 go_enter Try.func19, Try.ntmps19
 go_wp2_with (first | ((with_reducible refine gate_callee (f := 71) rfl ?_); refine goesL_ (some 7) rfl rfl Try.func71 (by kernel_rfl) rfl #[.slice A1 l1.length c1] rfl (by (try simp only [List.map_toArray, List.map_cons, List.map_nil]); first | done | rfl | (simp only [List.length_drop, List.length_take]; rfl)) ?_; (with_reducible refine (doc_run.calls k _ _ l1 t112 _ ?side1 ?side2 A3.out).mono ?_); (case side1 => repeat (first | exact HR1.out | (with_reducible refine Kd.C_alloc ?_ _) | (with_reducible refine Kd.C_drewN ?_ _) | (with_reducible refine Kd.C_drew ?_))); (case side2 => exact HC1.out); rintro e w5 ⟨rfl, hb⟩; refine ⟨_, rfl, ?_⟩; have n0_ := Aside0.mk (below_step (by repeat (first | (with_reducible first | exact HB.out | apply below_alloc | apply pw_below_drewN | apply below_drew1) | exact HB.out)) hb); clear HB; have HB := n0_; clear n0_; (try clear hb); (try clear hb2); (try clear hk); (try clear hi)))
 go_ret
 exact ⟨by first | rfl | (simp [errW_none, errW_some] <;> rfl) | (simp only [← hji4]; first | rfl | (simp [errW_none, errW_some] <;> rfl)) | (simp [*, errW_none, errW_some] <;> rfl), by repeat (first | (with_reducible first | exact HB.out | apply below_alloc | apply pw_below_drewN | apply below_drew1) | exact HB.out)⟩
end Go.Proofs.Ytfiamddinkokbaa.F
end

section
set_option linter.unusedVariables false
set_option linter.unusedSimpArgs false
namespace Go.Proofs.Ytfiamddinkokbaa.F
open Go.RowKit Go.Proofs.YtfiamddinkokbaaW.PrintWords Go.Proofs.YtfiamddinkokbaaW.PrintLast Go.Proofs.YtfiamddinkokbaaW.PrintMore
attribute [local go_sem] max2_int min2_int max_two min_two max_three min_three max_four min_four
set_option linter.unusedVariables false
set_option linter.unusedSimpArgs false
theorem eqA84 (d : Nat) (w : World) (x0 y0 : ByteArray) (x1 y1 : ByteArray) (x2 y2 : ByteArray) :
  (Op.equalIn (d + 2) 84 (.agg #[.string x0, .string x1, .string x2]) (.agg #[.string y0, .string y1, .string y2])).run Try.prog w = .ok (x0.toList == y0.toList && (x1.toList == y1.toList && (x2.toList == y2.toList))) w := by
 refine eqA_of Try.underlying84 (by kernel_rfl) ?_
 refine eqf_cons (by rfl) (by go_simp; rfl) (by go_simp; rfl) (by go_simp) ?_
 refine eqf_cons (by rfl) (by go_simp; rfl) (by go_simp; rfl) (by go_simp) ?_
 exact eqf_last (by rfl) (by go_simp; rfl) (by go_simp; rfl) (by go_simp)
theorem eqA106 (d : Nat) (w : World) (x0 y0 : ByteArray) (x1 y1 : ByteArray) (x2 y2 : ByteArray) (x3 y3 : Bool) (x4 y4 : ByteArray) (x5 y5 : ByteArray) (x6 y6 : ByteArray) (x7 y7 : ByteArray) (x8 y8 : Bool) :
  (Op.equalIn (d + 3) 106 (.agg #[.string x0, .string x1, .string x2, .bool x3, .string x4, .string x5, .string x6, .string x7, .bool x8]) (.agg #[.string y0, .string y1, .string y2, .bool y3, .string y4, .string y5, .string y6, .string y7, .bool y8])).run Try.prog w = .ok ((x0.toList == y0.toList && (x1.toList == y1.toList && (x2.toList == y2.toList))) && (x3 == y3 && (x4.toList == y4.toList && (x5.toList == y5.toList && (x6.toList == y6.toList && (x7.toList == y7.toList && (x8 == y8))))))) w := by
 refine eqA_of Try.underlying106 (by kernel_rfl) ?_
 refine eqf_cons (by rfl) (by go_simp) (by go_simp) (eqA84 (d + 0) w _ _ _ _ _ _) ?_
 refine eqf_cons (by rfl) (by go_simp; rfl) (by go_simp; rfl) (by go_simp) ?_
 refine eqf_cons (by rfl) (by go_simp; rfl) (by go_simp; rfl) (by go_simp) ?_
 refine eqf_cons (by rfl) (by go_simp; rfl) (by go_simp; rfl) (by go_simp) ?_
 refine eqf_cons (by rfl) (by go_simp; rfl) (by go_simp; rfl) (by go_simp) ?_
 refine eqf_cons (by rfl) (by go_simp; rfl) (by go_simp; rfl) (by go_simp) ?_
 exact eqf_last (by rfl) (by go_simp; rfl) (by go_simp; rfl) (by go_simp)
end Go.Proofs.Ytfiamddinkokbaa.F
end

section
set_option linter.unusedVariables false
set_option linter.unusedSimpArgs false
namespace Go.Proofs.Ytfiamddinkokbaa.F
open Go.RowKit Go.Proofs.YtfiamddinkokbaaW.PrintWords Go.Proofs.YtfiamddinkokbaaW.PrintLast Go.Proofs.YtfiamddinkokbaaW.PrintMore
attribute [local go_sem] max2_int min2_int max_two min_two max_three min_three max_four min_four
set_option linter.unusedVariables false
set_option linter.unusedSimpArgs false
attribute [local go_sem high] eqA106
def doc_Part_isText.f (a0_0 : ByteArray) (a0_1 : ByteArray) (a0_2 : ByteArray) (a0_3 : Bool) (a0_4 : ByteArray) (a0_5 : ByteArray) (a0_6 : ByteArray) (a0_7 : ByteArray) (a0_8 : Bool) : Option (Bool) := some ((a0_0.toList.isEmpty && (a0_1.toList.isEmpty && (a0_2.toList.isEmpty))) && (!a0_3 && (a0_5.toList.isEmpty && (a0_6.toList.isEmpty && (a0_7.toList.isEmpty && (!a0_8))))))
set_option maxHeartbeats 8000000 in
set_option maxRecDepth 100000 in
theorem doc_Part_isText.calls (a0_0 : ByteArray) (a0_1 : ByteArray) (a0_2 : ByteArray) (a0_3 : Bool) (a0_4 : ByteArray) (a0_5 : ByteArray) (a0_6 : ByteArray) (a0_7 : ByteArray) (a0_8 : Bool) (r : Bool) (w : World) (h : doc_Part_isText.f a0_0 a0_1 a0_2 a0_3 a0_4 a0_5 a0_6 a0_7 a0_8 = some r) :
  Calls Try.prog 75 #[.agg #[.string a0_0, .string a0_1, .string a0_2, .bool a0_3, .string a0_4, .string a0_5, .string a0_6, .string a0_7, .bool a0_8]] w fun e w' => e = .returned (.bool r) ∧ Below w.heap.size w w' := by
 have hu106 := Try.underlying106
 have HB := Aside0.mk (Below.refl w.heap.size w)
 have H : (some ((a0_0.toList.isEmpty && (a0_1.toList.isEmpty && (a0_2.toList.isEmpty))) && (!a0_3 && (a0_5.toList.isEmpty && (a0_6.toList.isEmpty && (a0_7.toList.isEmpty && (!a0_8))))))) = some r := h
 clear h
 obtain rfl := Option.some.inj H
 go_enter Try.func75, Try.ntmps75
 go_wp2_with (first | ((with_reducible refine gate_dst (N := 1) rfl ?_); refine box_event ?hg (N := 1) ?hd (cs := #[.string a0_0, .string a0_1, .string a0_2, .bool a0_3, .string a0_4, .string a0_5, .string a0_6, .string a0_7, .bool a0_8]) (t := 106) ?hr ?_; (case hd => rfl); (case hg => rfl); (case hr => first | (go_simp; done) | (go_simp; rfl)); intro gb113 hg w2 hbox hb; have n0_ := Aside0.mk (below_step (by repeat (first | (with_reducible first | exact HB.out | apply below_alloc | apply pw_below_drewN | apply below_drew1) | exact HB.out)) hb); have n1_ := Aside0.mk (hbox); have n2_ := Aside0.mk ((by rw [hg]; exact (below_size (by repeat (first | (with_reducible first | exact HB.out | apply below_alloc | apply pw_below_drewN | apply below_drew1) | exact HB.out))) : w.heap.size ≤ gb113)); have n3_ := Aside0.mk ((by rw [hg]; exact (below_size (by repeat (first | (with_reducible first | exact HB.out | apply below_alloc | apply pw_below_drewN | apply below_drew1) | exact HB.out))) : w.heap.size ≤ gb113)); clear HB; have HB := n0_; have BK113 := n1_; have GW113 := n2_; have GE113 := n3_; clear n0_ n1_ n2_ n3_; clear hb hbox hg; have hcz3_0 : w2.cell? ⟨gb113, 0, none⟩ = some (.string a0_0) := (blk_cell BK113.out 0).trans rfl; have hcz3_1 : w2.cell? ⟨gb113, 1, none⟩ = some (.string a0_1) := (blk_cell BK113.out 1).trans rfl; have hcz3_2 : w2.cell? ⟨gb113, 2, none⟩ = some (.string a0_2) := (blk_cell BK113.out 2).trans rfl; have hcz3_3 : w2.cell? ⟨gb113, 3, none⟩ = some (.bool a0_3) := (blk_cell BK113.out 3).trans rfl; have hcz3_4 : w2.cell? ⟨gb113, 4, none⟩ = some (.string a0_4) := (blk_cell BK113.out 4).trans rfl; have hcz3_5 : w2.cell? ⟨gb113, 5, none⟩ = some (.string a0_5) := (blk_cell BK113.out 5).trans rfl; have hcz3_6 : w2.cell? ⟨gb113, 6, none⟩ = some (.string a0_6) := (blk_cell BK113.out 6).trans rfl; have hcz3_7 : w2.cell? ⟨gb113, 7, none⟩ = some (.string a0_7) := (blk_cell BK113.out 7).trans rfl; have hcz3_8 : w2.cell? ⟨gb113, 8, none⟩ = some (.bool a0_8) := (blk_cell BK113.out 8).trans rfl; have hfz3_0 := blk_frozen BK113.out 0; have hfz3_1 := blk_frozen BK113.out 1; have hfz3_2 := blk_frozen BK113.out 2; have hfz3_3 := blk_frozen BK113.out 3; have hfz3_4 := blk_frozen BK113.out 4; have hfz3_5 := blk_frozen BK113.out 5; have hfz3_6 := blk_frozen BK113.out 6; have hfz3_7 := blk_frozen BK113.out 7; have hfz3_8 := blk_frozen BK113.out 8))
 go_ret
 exact ⟨by first | rfl | (simp [errW_none, errW_some] <;> rfl) | (simp [*, errW_none, errW_some] <;> rfl), by repeat (first | (with_reducible first | exact HB.out | apply below_alloc | apply pw_below_drewN | apply below_drew1 | refine below_set ?_ GE113.out) | exact HB.out)⟩
end Go.Proofs.Ytfiamddinkokbaa.F
end
