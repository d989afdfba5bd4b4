/- Texts joined into one file (wip/tools/pack.py): Fn115, Fn72, Fits, Fn73, Fn20, Fn22 -/
import Derived.Test.YtfiamddinkokbaaDJ1
import Derived.Shelf.SlicesQ.IndexFunc
import Derived.Deep.RegionHeld3
section
set_option linter.unusedVariables false
set_option linter.unusedSimpArgs false
namespace Go.Proofs.Ytfiamddinkokbaa.F
open Go.RowKit Go.Proofs.YtfiamddinkokbaaW.PrintWords Go.Proofs.YtfiamddinkokbaaW.PrintLast Go.Proofs.YtfiamddinkokbaaW.PrintMore
attribute [local go_sem] max2_int min2_int max_two min_two max_three min_three max_four min_four
set_option linter.unusedVariables false
set_option linter.unusedSimpArgs false
def strings_HasSuffix.f (a0 : ByteArray) (a1 : ByteArray) : Option (Bool) := (stringslite_HasSuffix.f a0 a1).bind fun t135 => (some t135)
set_option maxHeartbeats 8000000 in
set_option maxRecDepth 100000 in
theorem strings_HasSuffix.calls (a0 : ByteArray) (a1 : ByteArray) (r : Bool) (w : World) (h : strings_HasSuffix.f a0 a1 = some r) :
    Calls Try.prog 115 #[.string a0, .string a1] w fun e w' => e = .returned (.bool r) ∧ Drawn0 w w' := by
  have H : ((stringslite_HasSuffix.f a0 a1).bind fun t135 => (some t135)) = some r := h
  clear h
  replace H := Option.bind_eq_some_iff.mp H
  obtain ⟨t135, A30, H⟩ := H
  replace H : (some t135) = some r := H
  have A3 := Aside0.mk A30
  clear A30
  obtain rfl := Option.some.inj H
  go_enter Try.func115, Try.ntmps115
  go_wp2_with (first | ((with_reducible refine gate_callee (f := 142) rfl ?_); refine goesL_ (some 7) rfl rfl Try.func142 (by kernel_rfl) rfl #[.string a0, .string a1] rfl (by (try simp only [List.map_toArray, List.map_cons, List.map_nil]); first | done | rfl | (simp only [List.length_drop, List.length_take]; rfl)) ?_; (with_reducible refine (stringslite_HasSuffix.calls a0 a1 t135 _ A3.out).mono ?_); rintro e w' ⟨rfl, ⟨nd, rfl⟩⟩; refine ⟨_, rfl, ?_⟩))
  go_ret
  exact ⟨by first | rfl | (simp; done) | (simp [*]; done), by repeat (first | exact Drawn0.refl _ | apply Drawn0.step)⟩
end Go.Proofs.Ytfiamddinkokbaa.F
end

section
set_option linter.unusedVariables false
set_option linter.unusedSimpArgs false
namespace Go.Proofs.Ytfiamddinkokbaa.F
open Go.RowKit Go.Proofs.YtfiamddinkokbaaW.PrintWords Go.Proofs.YtfiamddinkokbaaW.PrintLast Go.Proofs.YtfiamddinkokbaaW.PrintMore
attribute [local go_sem] max2_int min2_int max_two min_two max_three min_three max_four min_four
set_option linter.unusedVariables false
set_option linter.unusedSimpArgs false
mutual
def doc_Doc_Right.l0 : Nat → List (S106) → Bool → List (S106) → Int → Int → Option (Bool)
  | 0, _, _, _, _, _ => none
  | k + 1, x0, x3, x6, x7, x8 => if x8 < x7 then (if 0 ≤ x8 then (if x8 < (x6.length : Int) then ((doc_Part_isText.f ((rd_T106 x6 x8).f0.f0) ((rd_T106 x6 x8).f0.f1) ((rd_T106 x6 x8).f0.f2) ((rd_T106 x6 x8).f1) ((rd_T106 x6 x8).f2) ((rd_T106 x6 x8).f3) ((rd_T106 x6 x8).f4) ((rd_T106 x6 x8).f5) ((rd_T106 x6 x8).f6)).bind fun t138 => (if t138 = true then (doc_Doc_Right.j1 k x0 x3 x8 x6 x7 x8 false ((rd_T106 x6 x8).f0.f0) ((rd_T106 x6 x8).f0.f1) ((rd_T106 x6 x8).f0.f2) ((rd_T106 x6 x8).f1) ((rd_T106 x6 x8).f2) ((rd_T106 x6 x8).f3) ((rd_T106 x6 x8).f4) ((rd_T106 x6 x8).f5) ((rd_T106 x6 x8).f6)) else ((doc_Part_isConflict.f ((rd_T106 x6 x8).f0.f0) ((rd_T106 x6 x8).f0.f1) ((rd_T106 x6 x8).f0.f2) ((rd_T106 x6 x8).f1) ((rd_T106 x6 x8).f2) ((rd_T106 x6 x8).f3) ((rd_T106 x6 x8).f4) ((rd_T106 x6 x8).f5) ((rd_T106 x6 x8).f6)).bind fun t139 => (doc_Doc_Right.j1 k x0 x3 x8 x6 x7 x8 (!t139) ((rd_T106 x6 x8).f0.f0) ((rd_T106 x6 x8).f0.f1) ((rd_T106 x6 x8).f0.f2) ((rd_T106 x6 x8).f1) ((rd_T106 x6 x8).f2) ((rd_T106 x6 x8).f3) ((rd_T106 x6 x8).f4) ((rd_T106 x6 x8).f5) ((rd_T106 x6 x8).f6))))) else (none)) else (none)) else (some true)
def doc_Doc_Right.j1 : Nat → List (S106) → Bool → Int → List (S106) → Int → Int → Bool → ByteArray → ByteArray → ByteArray → Bool → ByteArray → ByteArray → ByteArray → ByteArray → Bool → Option (Bool)
  | 0, _, _, _, _, _, _, _, _, _, _, _, _, _, _, _, _ => none
  | k + 1, x0, x3, x4, x6, x7, x8, x13, x138000, x138001, x138002, x138003, x138004, x138005, x138006, x138007, x138008 => if x13 = true then (doc_Doc_Right.j2 k x0 x3 x4 x6 x7 x8 x13 x138000 x138001 x138002 x138003 x138004 x138005 x138006 x138007 x138008) else ((doc_Labels_Plain.f x138000 x138001 x138002).bind fun t140 => (doc_Doc_Right.j2 k x0 x3 x4 x6 x7 x8 (!t140) x138000 x138001 x138002 x138003 x138004 x138005 x138006 x138007 x138008))
def doc_Doc_Right.j2 : Nat → List (S106) → Bool → Int → List (S106) → Int → Int → Bool → ByteArray → ByteArray → ByteArray → Bool → ByteArray → ByteArray → ByteArray → ByteArray → Bool → Option (Bool)
  | 0, _, _, _, _, _, _, _, _, _, _, _, _, _, _, _, _ => none
  | k + 1, x0, x3, x4, x6, x7, x8, x13, x138000, x138001, x138002, x138003, x138004, x138005, x138006, x138007, x138008 => if x13 = true then (some false) else ((doc_Part_isText.f x138000 x138001 x138002 x138003 x138004 x138005 x138006 x138007 x138008).bind fun t141 => (if t141 = true then (if x3 = true then (some false) else (if x138004.toList = ([] : List UInt8) then (some false) else (if x4 < (wrap64 ((x0.length : Int) - 1)) then ((strings_HasSuffix.f x138004 (⟨#[10]⟩ : ByteArray)).bind fun t142 => (if t142 = true then ((doc_Part_isText.f x138000 x138001 x138002 x138003 x138004 x138005 x138006 x138007 x138008).bind fun t143 => (doc_Doc_Right.l0 k x0 t143 x6 x7 (wrap64 (x8 + 1)))) else (some false))) else ((doc_Part_isText.f x138000 x138001 x138002 x138003 x138004 x138005 x138006 x138007 x138008).bind fun t144 => (doc_Doc_Right.l0 k x0 t144 x6 x7 (wrap64 (x8 + 1))))))) else ((doc_Part_isText.f x138000 x138001 x138002 x138003 x138004 x138005 x138006 x138007 x138008).bind fun t145 => (doc_Doc_Right.l0 k x0 t145 x6 x7 (wrap64 (x8 + 1))))))
end
def doc_Doc_Right.f (k : Nat) (l0 : List (S106)) : Option (Bool) := doc_Doc_Right.l0 k l0 false l0 (l0.length : Int) 0
theorem doc_Doc_Right.mono_l : ∀ k, (∀ y0 y1 y2 y3 y4, LeO (doc_Doc_Right.l0 k y0 y1 y2 y3 y4) (doc_Doc_Right.l0 (k + 1) y0 y1 y2 y3 y4)) ∧ (∀ y0 y1 y2 y3 y4 y5 y6 y7 y8 y9 y10 y11 y12 y13 y14 y15, LeO (doc_Doc_Right.j1 k y0 y1 y2 y3 y4 y5 y6 y7 y8 y9 y10 y11 y12 y13 y14 y15) (doc_Doc_Right.j1 (k + 1) y0 y1 y2 y3 y4 y5 y6 y7 y8 y9 y10 y11 y12 y13 y14 y15)) ∧ (∀ y0 y1 y2 y3 y4 y5 y6 y7 y8 y9 y10 y11 y12 y13 y14 y15, LeO (doc_Doc_Right.j2 k y0 y1 y2 y3 y4 y5 y6 y7 y8 y9 y10 y11 y12 y13 y14 y15) (doc_Doc_Right.j2 (k + 1) y0 y1 y2 y3 y4 y5 y6 y7 y8 y9 y10 y11 y12 y13 y14 y15))
  | 0 => ⟨fun _ _ _ _ _ r h => by simp [doc_Doc_Right.l0] at h, fun _ _ _ _ _ _ _ _ _ _ _ _ _ _ _ _ r h => by simp [doc_Doc_Right.j1] at h, fun _ _ _ _ _ _ _ _ _ _ _ _ _ _ _ _ r h => by simp [doc_Doc_Right.j2] at h⟩
  | k + 1 => by
    obtain ⟨ih0, ih1, ih2⟩ := doc_Doc_Right.mono_l k
    refine ⟨?_, ?_, ?_⟩
    · intro y0 y1 y2 y3 y4
      unfold doc_Doc_Right.l0
      repeat' first
      | (with_reducible exact ih0 _ _ _ _ _)
      | (with_reducible exact ih1 _ _ _ _ _ _ _ _ _ _ _ _ _ _ _ _)
      | (with_reducible exact ih2 _ _ _ _ _ _ _ _ _ _ _ _ _ _ _ _)
      | (with_reducible exact LeO.refl _)
      | (with_reducible exact LeO.none _)
      | (with_reducible refine LeO.ite ?_ ?_)
      | (with_reducible refine LeO.bind ?_ (fun _ => ?_))
      | exact ih0 _ _ _ _ _
      | exact ih1 _ _ _ _ _ _ _ _ _ _ _ _ _ _ _ _
      | exact ih2 _ _ _ _ _ _ _ _ _ _ _ _ _ _ _ _
      | exact LeO.none _
      | refine LeO.ite ?_ ?_
      | refine LeO.bind ?_ (fun _ => ?_)
    · intro y0 y1 y2 y3 y4 y5 y6 y7 y8 y9 y10 y11 y12 y13 y14 y15
      unfold doc_Doc_Right.j1
      repeat' first
      | (with_reducible exact ih0 _ _ _ _ _)
      | (with_reducible exact ih1 _ _ _ _ _ _ _ _ _ _ _ _ _ _ _ _)
      | (with_reducible exact ih2 _ _ _ _ _ _ _ _ _ _ _ _ _ _ _ _)
      | (with_reducible exact LeO.refl _)
      | (with_reducible exact LeO.none _)
      | (with_reducible refine LeO.ite ?_ ?_)
      | (with_reducible refine LeO.bind ?_ (fun _ => ?_))
      | exact ih0 _ _ _ _ _
      | exact ih1 _ _ _ _ _ _ _ _ _ _ _ _ _ _ _ _
      | exact ih2 _ _ _ _ _ _ _ _ _ _ _ _ _ _ _ _
      | exact LeO.none _
      | refine LeO.ite ?_ ?_
      | refine LeO.bind ?_ (fun _ => ?_)
    · intro y0 y1 y2 y3 y4 y5 y6 y7 y8 y9 y10 y11 y12 y13 y14 y15
      unfold doc_Doc_Right.j2
      repeat' first
      | (with_reducible exact ih0 _ _ _ _ _)
      | (with_reducible exact ih1 _ _ _ _ _ _ _ _ _ _ _ _ _ _ _ _)
      | (with_reducible exact ih2 _ _ _ _ _ _ _ _ _ _ _ _ _ _ _ _)
      | (with_reducible exact LeO.refl _)
      | (with_reducible exact LeO.none _)
      | (with_reducible refine LeO.ite ?_ ?_)
      | (with_reducible refine LeO.bind ?_ (fun _ => ?_))
      | exact ih0 _ _ _ _ _
      | exact ih1 _ _ _ _ _ _ _ _ _ _ _ _ _ _ _ _
      | exact ih2 _ _ _ _ _ _ _ _ _ _ _ _ _ _ _ _
      | exact LeO.none _
      | refine LeO.ite ?_ ?_
      | refine LeO.bind ?_ (fun _ => ?_)
theorem doc_Doc_Right.mono : ∀ a0 k, LeO (doc_Doc_Right.f k a0) (doc_Doc_Right.f (k + 1) a0) := by
  intro a0 k
  obtain ⟨ih0, ih1, ih2⟩ := doc_Doc_Right.mono_l k
  unfold doc_Doc_Right.f
  repeat' first
      | (with_reducible exact ih0 _ _ _ _ _)
      | (with_reducible exact ih1 _ _ _ _ _ _ _ _ _ _ _ _ _ _ _ _)
      | (with_reducible exact ih2 _ _ _ _ _ _ _ _ _ _ _ _ _ _ _ _)
      | (with_reducible exact LeO.refl _)
      | (with_reducible exact LeO.none _)
      | (with_reducible refine LeO.ite ?_ ?_)
      | (with_reducible refine LeO.bind ?_ (fun _ => ?_))
      | exact ih0 _ _ _ _ _
      | exact ih1 _ _ _ _ _ _ _ _ _ _ _ _ _ _ _ _
      | exact ih2 _ _ _ _ _ _ _ _ _ _ _ _ _ _ _ _
      | exact LeO.none _
      | refine LeO.ite ?_ ?_
      | refine LeO.bind ?_ (fun _ => ?_)
set_option maxHeartbeats 8000000 in
set_option maxRecDepth 100000 in
theorem doc_Doc_Right.calls (k : Nat) (A0 : Option Addr) (c0 : Nat) (l0 : List (S106)) (r : Bool) (w : World) (hr0 : Kd.C k106 w A0 l0.length l0) (hc0 : l0.length ≤ c0) (h : doc_Doc_Right.f k l0 = some r) :
    Calls Try.prog 72 #[.slice A0 l0.length c0] w fun e w' => e = .returned (.bool r) ∧ Below w.heap.size w w' := by
  have hu106 := Try.underlying106
  have hu84 := Try.underlying84
  have HR0 := Aside0.mk hr0
  have HC0 := Aside0.mk hc0
  clear hr0 hc0
  have HB := Aside0.mk (Below.refl w.heap.size w)
  have H : (doc_Doc_Right.l0 k l0 false l0 (l0.length : Int) 0) = some r := h
  clear h
  have H' := Aside0.mk H
  clear H
  go_enter Try.func72, Try.ntmps72
  go_wp2
  go_loopg [3, 8] k (fun kq v3 v8 w' => ∃ (x3_1 : Bool) (x8_1 : Int), v3 = .bool x3_1 ∧ v8 = .int .i64 x8_1 ∧ Aside0 (doc_Doc_Right.l0 kq l0 x3_1 l0 (l0.length : Int) x8_1 = some r) ∧ Aside0 (kq ≤ k) ∧ Aside0 (Below w.heap.size w w'))
  case atStart => exact ⟨(false), (0), (by first | rfl | (simp; done) | (simp [*]; done)), (by first | rfl | (simp; done) | (simp [*]; done)), H', ⟨Nat.le_refl _⟩, ⟨by repeat (first | (with_reducible first | exact HB.out | apply below_alloc | apply pw_below_drewN | apply below_drew1) | exact HB.out)⟩⟩
  case round =>
    clear H'
    obtain ⟨x3_1, x8_1, rfl, rfl, HA, HK1, HB⟩ := hrel
    cases gk with
    | zero => exact absurd HA.out (by simp [doc_Doc_Right.l0])
    | succ k1 =>
      have H := HA.out
      clear HA
      simp only [doc_Doc_Right.l0] at H
      by_cases c2 : x8_1 < (l0.length : Int)
      · rw [if_pos c2] at H
        have c2b0 : decide (x8_1 < (l0.length : Int)) = true := decide_eq_true c2
        clear c2
        by_cases c3 : 0 ≤ x8_1
        · rw [if_pos c3] at H
          have c3b0 : decide (0 ≤ x8_1) = true := decide_eq_true c3
          clear c3
          by_cases c4 : x8_1 < (l0.length : Int)
          · rw [if_pos c4] at H
            have c4b0 : decide (x8_1 < (l0.length : Int)) = true := decide_eq_true c4
            clear c4
            have HC5 := Aside0.mk H
            clear H
            have p136 : 0 ≤ (x8_1 : Int) := of_decide_eq_true (by first | (with_reducible assumption) | assumption)
            have q136 : x8_1 < (l0.length : Int) := of_decide_eq_true (by first | (with_reducible assumption) | assumption)
            obtain ⟨ad136, e136, hx136_0, hx136_1, hx136_2, hx136_3, hx136_4, hx136_5, hx136_6, hx136_7, hx136_8⟩ := at_T106 HR0.out x8_1 p136 q136
            cases e136
            replace hx136_0 := (HB.out.cell (World.block_lt_of_cell? w _ hx136_0)).trans hx136_0
            replace hx136_1 := (HB.out.cell (World.block_lt_of_cell? w _ hx136_1)).trans hx136_1
            replace hx136_2 := (HB.out.cell (World.block_lt_of_cell? w _ hx136_2)).trans hx136_2
            replace hx136_3 := (HB.out.cell (World.block_lt_of_cell? w _ hx136_3)).trans hx136_3
            replace hx136_4 := (HB.out.cell (World.block_lt_of_cell? w _ hx136_4)).trans hx136_4
            replace hx136_5 := (HB.out.cell (World.block_lt_of_cell? w _ hx136_5)).trans hx136_5
            replace hx136_6 := (HB.out.cell (World.block_lt_of_cell? w _ hx136_6)).trans hx136_6
            replace hx136_7 := (HB.out.cell (World.block_lt_of_cell? w _ hx136_7)).trans hx136_7
            replace hx136_8 := (HB.out.cell (World.block_lt_of_cell? w _ hx136_8)).trans hx136_8
            replace p136 := eq_true p136
            replace q136 := eq_true q136
            go_upto_region 5 with (first | ((with_reducible refine gate_dst (N := 5) rfl ?_); (try (refine gate_guard (by rfl) ?_; dsimp only)); refine box_event ?hg (N := 5) ?hd (cs := #[.string (⟨#[]⟩ : ByteArray), .string (⟨#[]⟩ : ByteArray), .string (⟨#[]⟩ : ByteArray), .bool false, .string (⟨#[]⟩ : ByteArray), .string (⟨#[]⟩ : ByteArray), .string (⟨#[]⟩ : ByteArray), .string (⟨#[]⟩ : ByteArray), .bool false]) (t := 106) ?hr ?_; (case hd => rfl); (case hg => rfl); (case hr => first | (go_simp; done) | (go_simp; rfl)); intro gb137 hg w6 hbox hb; have n0_ := Aside0.mk (below_step (by repeat (first | (with_reducible first | exact HB.out | apply below_alloc | apply pw_below_drewN | apply below_drew1) | exact HB.out)) hb); have n1_ := Aside0.mk (hbox); have n2_ := Aside0.mk ((by rw [hg]; exact (below_size (by repeat (first | (with_reducible first | exact HB.out | apply below_alloc | apply pw_below_drewN | apply below_drew1) | exact HB.out))) : w.heap.size ≤ gb137)); have n3_ := Aside0.mk ((by rw [hg]; exact (below_size (by repeat (first | (with_reducible first | exact HB.out | apply below_alloc | apply pw_below_drewN | apply below_drew1) | exact HB.out))) : w.heap.size ≤ gb137)); clear HB; have HB := n0_; have BK137 := n1_; have GW137 := n2_; have GE137 := n3_; clear n0_ n1_ n2_ n3_; clear hb hbox hg; have hcz7_0 : w6.cell? ⟨gb137, 0, none⟩ = some (.string (⟨#[]⟩ : ByteArray)) := (blk_cell BK137.out 0).trans rfl; have hcz7_1 : w6.cell? ⟨gb137, 1, none⟩ = some (.string (⟨#[]⟩ : ByteArray)) := (blk_cell BK137.out 1).trans rfl; have hcz7_2 : w6.cell? ⟨gb137, 2, none⟩ = some (.string (⟨#[]⟩ : ByteArray)) := (blk_cell BK137.out 2).trans rfl; have hcz7_3 : w6.cell? ⟨gb137, 3, none⟩ = some (.bool false) := (blk_cell BK137.out 3).trans rfl; have hcz7_4 : w6.cell? ⟨gb137, 4, none⟩ = some (.string (⟨#[]⟩ : ByteArray)) := (blk_cell BK137.out 4).trans rfl; have hcz7_5 : w6.cell? ⟨gb137, 5, none⟩ = some (.string (⟨#[]⟩ : ByteArray)) := (blk_cell BK137.out 5).trans rfl; have hcz7_6 : w6.cell? ⟨gb137, 6, none⟩ = some (.string (⟨#[]⟩ : ByteArray)) := (blk_cell BK137.out 6).trans rfl; have hcz7_7 : w6.cell? ⟨gb137, 7, none⟩ = some (.string (⟨#[]⟩ : ByteArray)) := (blk_cell BK137.out 7).trans rfl; have hcz7_8 : w6.cell? ⟨gb137, 8, none⟩ = some (.bool false) := (blk_cell BK137.out 8).trans rfl; have hfz7_0 := blk_frozen BK137.out 0; have hfz7_1 := blk_frozen BK137.out 1; have hfz7_2 := blk_frozen BK137.out 2; have hfz7_3 := blk_frozen BK137.out 3; have hfz7_4 := blk_frozen BK137.out 4; have hfz7_5 := blk_frozen BK137.out 5; have hfz7_6 := blk_frozen BK137.out 6; have hfz7_7 := blk_frozen BK137.out 7; have hfz7_8 := blk_frozen BK137.out 8))
            (try simp only [Act.put, List.setIfInBounds_toArray, List.set_cons_zero, List.set_cons_succ])
            go_cut [13] (fun v13 wc => ∃ (kq : Nat) (x13_4 : Bool), v13 = .bool x13_4 ∧ Aside0 (doc_Doc_Right.j1 kq l0 x3_1 x8_1 l0 (l0.length : Int) x8_1 x13_4 ((rd_T106 l0 x8_1).f0.f0) ((rd_T106 l0 x8_1).f0.f1) ((rd_T106 l0 x8_1).f0.f2) ((rd_T106 l0 x8_1).f1) ((rd_T106 l0 x8_1).f2) ((rd_T106 l0 x8_1).f3) ((rd_T106 l0 x8_1).f4) ((rd_T106 l0 x8_1).f5) ((rd_T106 l0 x8_1).f6) = some r) ∧ Aside0 (kq ≤ k1) ∧ Aside0 (wc.heap[gb137]? = some (.cells #[.string ((rd_T106 l0 x8_1).f0.f0), .string ((rd_T106 l0 x8_1).f0.f1), .string ((rd_T106 l0 x8_1).f0.f2), .bool ((rd_T106 l0 x8_1).f1), .string ((rd_T106 l0 x8_1).f2), .string ((rd_T106 l0 x8_1).f3), .string ((rd_T106 l0 x8_1).f4), .string ((rd_T106 l0 x8_1).f5), .bool ((rd_T106 l0 x8_1).f6)] 106 (0, 0))) ∧ Aside0 (Below w.heap.size w wc))
            case first =>
              have H := HC5.out
              clear HC5
              replace H := Option.bind_eq_some_iff.mp H
              obtain ⟨t138, A80, H⟩ := H
              replace H : (if t138 = true then (doc_Doc_Right.j1 k1 l0 x3_1 x8_1 l0 (l0.length : Int) x8_1 false ((rd_T106 l0 x8_1).f0.f0) ((rd_T106 l0 x8_1).f0.f1) ((rd_T106 l0 x8_1).f0.f2) ((rd_T106 l0 x8_1).f1) ((rd_T106 l0 x8_1).f2) ((rd_T106 l0 x8_1).f3) ((rd_T106 l0 x8_1).f4) ((rd_T106 l0 x8_1).f5) ((rd_T106 l0 x8_1).f6)) else ((doc_Part_isConflict.f ((rd_T106 l0 x8_1).f0.f0) ((rd_T106 l0 x8_1).f0.f1) ((rd_T106 l0 x8_1).f0.f2) ((rd_T106 l0 x8_1).f1) ((rd_T106 l0 x8_1).f2) ((rd_T106 l0 x8_1).f3) ((rd_T106 l0 x8_1).f4) ((rd_T106 l0 x8_1).f5) ((rd_T106 l0 x8_1).f6)).bind fun t139 => (doc_Doc_Right.j1 k1 l0 x3_1 x8_1 l0 (l0.length : Int) x8_1 (!t139) ((rd_T106 l0 x8_1).f0.f0) ((rd_T106 l0 x8_1).f0.f1) ((rd_T106 l0 x8_1).f0.f2) ((rd_T106 l0 x8_1).f1) ((rd_T106 l0 x8_1).f2) ((rd_T106 l0 x8_1).f3) ((rd_T106 l0 x8_1).f4) ((rd_T106 l0 x8_1).f5) ((rd_T106 l0 x8_1).f6)))) = some r := H
              have A8 := Aside0.mk A80
              clear A80
              by_cases c9 : t138 = true
              · subst c9
                have H1 : (doc_Doc_Right.j1 k1 l0 x3_1 x8_1 l0 (l0.length : Int) x8_1 false ((rd_T106 l0 x8_1).f0.f0) ((rd_T106 l0 x8_1).f0.f1) ((rd_T106 l0 x8_1).f0.f2) ((rd_T106 l0 x8_1).f1) ((rd_T106 l0 x8_1).f2) ((rd_T106 l0 x8_1).f3) ((rd_T106 l0 x8_1).f4) ((rd_T106 l0 x8_1).f5) ((rd_T106 l0 x8_1).f6)) = some r := by rw [if_pos rfl] at H; exact H
                clear H
                have H := H1
                clear H1
                have H' := Aside0.mk H
                clear H
                have hcz10_0 : w6.cell? ⟨gb137, 0, none⟩ = some (.string (⟨#[]⟩ : ByteArray)) := (blk_cell BK137.out 0).trans rfl
                have hcz10_1 : w6.cell? ⟨gb137, 1, none⟩ = some (.string (⟨#[]⟩ : ByteArray)) := (blk_cell BK137.out 1).trans rfl
                have hcz10_2 : w6.cell? ⟨gb137, 2, none⟩ = some (.string (⟨#[]⟩ : ByteArray)) := (blk_cell BK137.out 2).trans rfl
                have hcz10_3 : w6.cell? ⟨gb137, 3, none⟩ = some (.bool false) := (blk_cell BK137.out 3).trans rfl
                have hcz10_4 : w6.cell? ⟨gb137, 4, none⟩ = some (.string (⟨#[]⟩ : ByteArray)) := (blk_cell BK137.out 4).trans rfl
                have hcz10_5 : w6.cell? ⟨gb137, 5, none⟩ = some (.string (⟨#[]⟩ : ByteArray)) := (blk_cell BK137.out 5).trans rfl
                have hcz10_6 : w6.cell? ⟨gb137, 6, none⟩ = some (.string (⟨#[]⟩ : ByteArray)) := (blk_cell BK137.out 6).trans rfl
                have hcz10_7 : w6.cell? ⟨gb137, 7, none⟩ = some (.string (⟨#[]⟩ : ByteArray)) := (blk_cell BK137.out 7).trans rfl
                have hcz10_8 : w6.cell? ⟨gb137, 8, none⟩ = some (.bool false) := (blk_cell BK137.out 8).trans rfl
                have hfz10_0 := blk_frozen BK137.out 0
                have hfz10_1 := blk_frozen BK137.out 1
                have hfz10_2 := blk_frozen BK137.out 2
                have hfz10_3 := blk_frozen BK137.out 3
                have hfz10_4 := blk_frozen BK137.out 4
                have hfz10_5 := blk_frozen BK137.out 5
                have hfz10_6 := blk_frozen BK137.out 6
                have hfz10_7 := blk_frozen BK137.out 7
                have hfz10_8 := blk_frozen BK137.out 8
                go_wp2_with (first | ((with_reducible refine gate_callee (f := 75) rfl ?_); refine goesL_ (some 15) rfl rfl Try.func75 (by kernel_rfl) rfl #[.agg #[.string ((rd_T106 l0 x8_1).f0.f0), .string ((rd_T106 l0 x8_1).f0.f1), .string ((rd_T106 l0 x8_1).f0.f2), .bool ((rd_T106 l0 x8_1).f1), .string ((rd_T106 l0 x8_1).f2), .string ((rd_T106 l0 x8_1).f3), .string ((rd_T106 l0 x8_1).f4), .string ((rd_T106 l0 x8_1).f5), .bool ((rd_T106 l0 x8_1).f6)]] rfl (by (try simp only [List.map_toArray, List.map_cons, List.map_nil]); first | done | rfl | (simp only [List.length_drop, List.length_take]; rfl)) ?_; (with_reducible refine (doc_Part_isText.calls ((rd_T106 l0 x8_1).f0.f0) ((rd_T106 l0 x8_1).f0.f1) ((rd_T106 l0 x8_1).f0.f2) ((rd_T106 l0 x8_1).f1) ((rd_T106 l0 x8_1).f2) ((rd_T106 l0 x8_1).f3) ((rd_T106 l0 x8_1).f4) ((rd_T106 l0 x8_1).f5) ((rd_T106 l0 x8_1).f6) true _ A8.out).mono ?_); rintro e w11 ⟨rfl, hb⟩; refine ⟨_, rfl, ?_⟩; have n0_ := Aside0.mk (blk_below (g := gb137) (o := .cells #[.string ((rd_T106 l0 x8_1).f0.f0), .string ((rd_T106 l0 x8_1).f0.f1), .string ((rd_T106 l0 x8_1).f0.f2), .bool ((rd_T106 l0 x8_1).f1), .string ((rd_T106 l0 x8_1).f2), .string ((rd_T106 l0 x8_1).f3), .string ((rd_T106 l0 x8_1).f4), .string ((rd_T106 l0 x8_1).f5), .bool ((rd_T106 l0 x8_1).f6)] 106 (0, 0)) (by (with_reducible repeat (first | refine blk_drewN ?_ _ | refine blk_drew ?_ | refine blk_alloc ?_ _)); refine blk_put (cs := #[.string ((rd_T106 l0 x8_1).f0.f0), .string ((rd_T106 l0 x8_1).f0.f1), .string ((rd_T106 l0 x8_1).f0.f2), .bool ((rd_T106 l0 x8_1).f1), .string ((rd_T106 l0 x8_1).f2), .string ((rd_T106 l0 x8_1).f3), .string ((rd_T106 l0 x8_1).f4), .string ((rd_T106 l0 x8_1).f5), .bool false]) ?_ 8 _ rfl; (with_reducible repeat (first | refine blk_drewN ?_ _ | refine blk_drew ?_ | refine blk_alloc ?_ _)); refine blk_put (cs := #[.string ((rd_T106 l0 x8_1).f0.f0), .string ((rd_T106 l0 x8_1).f0.f1), .string ((rd_T106 l0 x8_1).f0.f2), .bool ((rd_T106 l0 x8_1).f1), .string ((rd_T106 l0 x8_1).f2), .string ((rd_T106 l0 x8_1).f3), .string ((rd_T106 l0 x8_1).f4), .string (⟨#[]⟩ : ByteArray), .bool false]) ?_ 7 _ rfl; (with_reducible repeat (first | refine blk_drewN ?_ _ | refine blk_drew ?_ | refine blk_alloc ?_ _)); refine blk_put (cs := #[.string ((rd_T106 l0 x8_1).f0.f0), .string ((rd_T106 l0 x8_1).f0.f1), .string ((rd_T106 l0 x8_1).f0.f2), .bool ((rd_T106 l0 x8_1).f1), .string ((rd_T106 l0 x8_1).f2), .string ((rd_T106 l0 x8_1).f3), .string (⟨#[]⟩ : ByteArray), .string (⟨#[]⟩ : ByteArray), .bool false]) ?_ 6 _ rfl; (with_reducible repeat (first | refine blk_drewN ?_ _ | refine blk_drew ?_ | refine blk_alloc ?_ _)); refine blk_put (cs := #[.string ((rd_T106 l0 x8_1).f0.f0), .string ((rd_T106 l0 x8_1).f0.f1), .string ((rd_T106 l0 x8_1).f0.f2), .bool ((rd_T106 l0 x8_1).f1), .string ((rd_T106 l0 x8_1).f2), .string (⟨#[]⟩ : ByteArray), .string (⟨#[]⟩ : ByteArray), .string (⟨#[]⟩ : ByteArray), .bool false]) ?_ 5 _ rfl; (with_reducible repeat (first | refine blk_drewN ?_ _ | refine blk_drew ?_ | refine blk_alloc ?_ _)); refine blk_put (cs := #[.string ((rd_T106 l0 x8_1).f0.f0), .string ((rd_T106 l0 x8_1).f0.f1), .string ((rd_T106 l0 x8_1).f0.f2), .bool ((rd_T106 l0 x8_1).f1), .string (⟨#[]⟩ : ByteArray), .string (⟨#[]⟩ : ByteArray), .string (⟨#[]⟩ : ByteArray), .string (⟨#[]⟩ : ByteArray), .bool false]) ?_ 4 _ rfl; (with_reducible repeat (first | refine blk_drewN ?_ _ | refine blk_drew ?_ | refine blk_alloc ?_ _)); refine blk_put (cs := #[.string ((rd_T106 l0 x8_1).f0.f0), .string ((rd_T106 l0 x8_1).f0.f1), .string ((rd_T106 l0 x8_1).f0.f2), .bool false, .string (⟨#[]⟩ : ByteArray), .string (⟨#[]⟩ : ByteArray), .string (⟨#[]⟩ : ByteArray), .string (⟨#[]⟩ : ByteArray), .bool false]) ?_ 3 _ rfl; (with_reducible repeat (first | refine blk_drewN ?_ _ | refine blk_drew ?_ | refine blk_alloc ?_ _)); refine blk_put (cs := #[.string ((rd_T106 l0 x8_1).f0.f0), .string ((rd_T106 l0 x8_1).f0.f1), .string (⟨#[]⟩ : ByteArray), .bool false, .string (⟨#[]⟩ : ByteArray), .string (⟨#[]⟩ : ByteArray), .string (⟨#[]⟩ : ByteArray), .string (⟨#[]⟩ : ByteArray), .bool false]) ?_ 2 _ rfl; (with_reducible repeat (first | refine blk_drewN ?_ _ | refine blk_drew ?_ | refine blk_alloc ?_ _)); refine blk_put (cs := #[.string ((rd_T106 l0 x8_1).f0.f0), .string (⟨#[]⟩ : ByteArray), .string (⟨#[]⟩ : ByteArray), .bool false, .string (⟨#[]⟩ : ByteArray), .string (⟨#[]⟩ : ByteArray), .string (⟨#[]⟩ : ByteArray), .string (⟨#[]⟩ : ByteArray), .bool false]) ?_ 1 _ rfl; (with_reducible repeat (first | refine blk_drewN ?_ _ | refine blk_drew ?_ | refine blk_alloc ?_ _)); refine blk_put (cs := #[.string (⟨#[]⟩ : ByteArray), .string (⟨#[]⟩ : ByteArray), .string (⟨#[]⟩ : ByteArray), .bool false, .string (⟨#[]⟩ : ByteArray), .string (⟨#[]⟩ : ByteArray), .string (⟨#[]⟩ : ByteArray), .string (⟨#[]⟩ : ByteArray), .bool false]) ?_ 0 _ rfl; (with_reducible repeat (first | refine blk_drewN ?_ _ | refine blk_drew ?_ | refine blk_alloc ?_ _)); exact BK137.out) hb); have n1_ := Aside0.mk (below_step (by repeat (first | (with_reducible first | exact HB.out | apply below_alloc | apply pw_below_drewN | apply below_drew1 | refine below_set ?_ GE137.out) | exact HB.out)) hb); clear BK137; clear HB; have BK137 := n0_; have HB := n1_; clear n0_ n1_; (try clear hb); (try clear hb2); (try clear hk); (try clear hi)))
                go_meet
                case rel => exact ⟨_, (false), (by first | rfl | (simp; done) | (simp [*]; done)), H', ⟨by have := HK1.out; first | omega | exact Nat.le_refl _⟩, ⟨by (with_reducible repeat (first | refine blk_drewN ?_ _ | refine blk_drew ?_ | refine blk_alloc ?_ _)); exact BK137.out⟩, ⟨by repeat (first | (with_reducible first | exact HB.out | apply below_alloc | apply pw_below_drewN | apply below_drew1 | refine below_set ?_ GE137.out) | exact HB.out)⟩⟩
              · replace c9 := Bool.eq_false_iff.mpr c9
                subst c9
                have H1 : ((doc_Part_isConflict.f ((rd_T106 l0 x8_1).f0.f0) ((rd_T106 l0 x8_1).f0.f1) ((rd_T106 l0 x8_1).f0.f2) ((rd_T106 l0 x8_1).f1) ((rd_T106 l0 x8_1).f2) ((rd_T106 l0 x8_1).f3) ((rd_T106 l0 x8_1).f4) ((rd_T106 l0 x8_1).f5) ((rd_T106 l0 x8_1).f6)).bind fun t139 => (doc_Doc_Right.j1 k1 l0 x3_1 x8_1 l0 (l0.length : Int) x8_1 (!t139) ((rd_T106 l0 x8_1).f0.f0) ((rd_T106 l0 x8_1).f0.f1) ((rd_T106 l0 x8_1).f0.f2) ((rd_T106 l0 x8_1).f1) ((rd_T106 l0 x8_1).f2) ((rd_T106 l0 x8_1).f3) ((rd_T106 l0 x8_1).f4) ((rd_T106 l0 x8_1).f5) ((rd_T106 l0 x8_1).f6))) = some r := by rw [if_neg (show ¬ (false = true) by decide)] at H; exact H
                clear H
                have H := H1
                clear H1
                replace H := Option.bind_eq_some_iff.mp H
                obtain ⟨t139, A120, H⟩ := H
                replace H : (doc_Doc_Right.j1 k1 l0 x3_1 x8_1 l0 (l0.length : Int) x8_1 (!t139) ((rd_T106 l0 x8_1).f0.f0) ((rd_T106 l0 x8_1).f0.f1) ((rd_T106 l0 x8_1).f0.f2) ((rd_T106 l0 x8_1).f1) ((rd_T106 l0 x8_1).f2) ((rd_T106 l0 x8_1).f3) ((rd_T106 l0 x8_1).f4) ((rd_T106 l0 x8_1).f5) ((rd_T106 l0 x8_1).f6)) = some r := H
                have A12 := Aside0.mk A120
                clear A120
                have H' := Aside0.mk H
                clear H
                have hcz13_0 : w6.cell? ⟨gb137, 0, none⟩ = some (.string (⟨#[]⟩ : ByteArray)) := (blk_cell BK137.out 0).trans rfl
                have hcz13_1 : w6.cell? ⟨gb137, 1, none⟩ = some (.string (⟨#[]⟩ : ByteArray)) := (blk_cell BK137.out 1).trans rfl
                have hcz13_2 : w6.cell? ⟨gb137, 2, none⟩ = some (.string (⟨#[]⟩ : ByteArray)) := (blk_cell BK137.out 2).trans rfl
                have hcz13_3 : w6.cell? ⟨gb137, 3, none⟩ = some (.bool false) := (blk_cell BK137.out 3).trans rfl
                have hcz13_4 : w6.cell? ⟨gb137, 4, none⟩ = some (.string (⟨#[]⟩ : ByteArray)) := (blk_cell BK137.out 4).trans rfl
                have hcz13_5 : w6.cell? ⟨gb137, 5, none⟩ = some (.string (⟨#[]⟩ : ByteArray)) := (blk_cell BK137.out 5).trans rfl
                have hcz13_6 : w6.cell? ⟨gb137, 6, none⟩ = some (.string (⟨#[]⟩ : ByteArray)) := (blk_cell BK137.out 6).trans rfl
                have hcz13_7 : w6.cell? ⟨gb137, 7, none⟩ = some (.string (⟨#[]⟩ : ByteArray)) := (blk_cell BK137.out 7).trans rfl
                have hcz13_8 : w6.cell? ⟨gb137, 8, none⟩ = some (.bool false) := (blk_cell BK137.out 8).trans rfl
                have hfz13_0 := blk_frozen BK137.out 0
                have hfz13_1 := blk_frozen BK137.out 1
                have hfz13_2 := blk_frozen BK137.out 2
                have hfz13_3 := blk_frozen BK137.out 3
                have hfz13_4 := blk_frozen BK137.out 4
                have hfz13_5 := blk_frozen BK137.out 5
                have hfz13_6 := blk_frozen BK137.out 6
                have hfz13_7 := blk_frozen BK137.out 7
                have hfz13_8 := blk_frozen BK137.out 8
                go_wp2_with (first | ((with_reducible refine gate_callee (f := 75) rfl ?_); refine goesL_ (some 15) rfl rfl Try.func75 (by kernel_rfl) rfl #[.agg #[.string ((rd_T106 l0 x8_1).f0.f0), .string ((rd_T106 l0 x8_1).f0.f1), .string ((rd_T106 l0 x8_1).f0.f2), .bool ((rd_T106 l0 x8_1).f1), .string ((rd_T106 l0 x8_1).f2), .string ((rd_T106 l0 x8_1).f3), .string ((rd_T106 l0 x8_1).f4), .string ((rd_T106 l0 x8_1).f5), .bool ((rd_T106 l0 x8_1).f6)]] rfl (by (try simp only [List.map_toArray, List.map_cons, List.map_nil]); first | done | rfl | (simp only [List.length_drop, List.length_take]; rfl)) ?_; (with_reducible refine (doc_Part_isText.calls ((rd_T106 l0 x8_1).f0.f0) ((rd_T106 l0 x8_1).f0.f1) ((rd_T106 l0 x8_1).f0.f2) ((rd_T106 l0 x8_1).f1) ((rd_T106 l0 x8_1).f2) ((rd_T106 l0 x8_1).f3) ((rd_T106 l0 x8_1).f4) ((rd_T106 l0 x8_1).f5) ((rd_T106 l0 x8_1).f6) false _ A8.out).mono ?_); rintro e w14 ⟨rfl, hb⟩; refine ⟨_, rfl, ?_⟩; have n0_ := Aside0.mk (blk_below (g := gb137) (o := .cells #[.string ((rd_T106 l0 x8_1).f0.f0), .string ((rd_T106 l0 x8_1).f0.f1), .string ((rd_T106 l0 x8_1).f0.f2), .bool ((rd_T106 l0 x8_1).f1), .string ((rd_T106 l0 x8_1).f2), .string ((rd_T106 l0 x8_1).f3), .string ((rd_T106 l0 x8_1).f4), .string ((rd_T106 l0 x8_1).f5), .bool ((rd_T106 l0 x8_1).f6)] 106 (0, 0)) (by (with_reducible repeat (first | refine blk_drewN ?_ _ | refine blk_drew ?_ | refine blk_alloc ?_ _)); refine blk_put (cs := #[.string ((rd_T106 l0 x8_1).f0.f0), .string ((rd_T106 l0 x8_1).f0.f1), .string ((rd_T106 l0 x8_1).f0.f2), .bool ((rd_T106 l0 x8_1).f1), .string ((rd_T106 l0 x8_1).f2), .string ((rd_T106 l0 x8_1).f3), .string ((rd_T106 l0 x8_1).f4), .string ((rd_T106 l0 x8_1).f5), .bool false]) ?_ 8 _ rfl; (with_reducible repeat (first | refine blk_drewN ?_ _ | refine blk_drew ?_ | refine blk_alloc ?_ _)); refine blk_put (cs := #[.string ((rd_T106 l0 x8_1).f0.f0), .string ((rd_T106 l0 x8_1).f0.f1), .string ((rd_T106 l0 x8_1).f0.f2), .bool ((rd_T106 l0 x8_1).f1), .string ((rd_T106 l0 x8_1).f2), .string ((rd_T106 l0 x8_1).f3), .string ((rd_T106 l0 x8_1).f4), .string (⟨#[]⟩ : ByteArray), .bool false]) ?_ 7 _ rfl; (with_reducible repeat (first | refine blk_drewN ?_ _ | refine blk_drew ?_ | refine blk_alloc ?_ _)); refine blk_put (cs := #[.string ((rd_T106 l0 x8_1).f0.f0), .string ((rd_T106 l0 x8_1).f0.f1), .string ((rd_T106 l0 x8_1).f0.f2), .bool ((rd_T106 l0 x8_1).f1), .string ((rd_T106 l0 x8_1).f2), .string ((rd_T106 l0 x8_1).f3), .string (⟨#[]⟩ : ByteArray), .string (⟨#[]⟩ : ByteArray), .bool false]) ?_ 6 _ rfl; (with_reducible repeat (first | refine blk_drewN ?_ _ | refine blk_drew ?_ | refine blk_alloc ?_ _)); refine blk_put (cs := #[.string ((rd_T106 l0 x8_1).f0.f0), .string ((rd_T106 l0 x8_1).f0.f1), .string ((rd_T106 l0 x8_1).f0.f2), .bool ((rd_T106 l0 x8_1).f1), .string ((rd_T106 l0 x8_1).f2), .string (⟨#[]⟩ : ByteArray), .string (⟨#[]⟩ : ByteArray), .string (⟨#[]⟩ : ByteArray), .bool false]) ?_ 5 _ rfl; (with_reducible repeat (first | refine blk_drewN ?_ _ | refine blk_drew ?_ | refine blk_alloc ?_ _)); refine blk_put (cs := #[.string ((rd_T106 l0 x8_1).f0.f0), .string ((rd_T106 l0 x8_1).f0.f1), .string ((rd_T106 l0 x8_1).f0.f2), .bool ((rd_T106 l0 x8_1).f1), .string (⟨#[]⟩ : ByteArray), .string (⟨#[]⟩ : ByteArray), .string (⟨#[]⟩ : ByteArray), .string (⟨#[]⟩ : ByteArray), .bool false]) ?_ 4 _ rfl; (with_reducible repeat (first | refine blk_drewN ?_ _ | refine blk_drew ?_ | refine blk_alloc ?_ _)); refine blk_put (cs := #[.string ((rd_T106 l0 x8_1).f0.f0), .string ((rd_T106 l0 x8_1).f0.f1), .string ((rd_T106 l0 x8_1).f0.f2), .bool false, .string (⟨#[]⟩ : ByteArray), .string (⟨#[]⟩ : ByteArray), .string (⟨#[]⟩ : ByteArray), .string (⟨#[]⟩ : ByteArray), .bool false]) ?_ 3 _ rfl; (with_reducible repeat (first | refine blk_drewN ?_ _ | refine blk_drew ?_ | refine blk_alloc ?_ _)); refine blk_put (cs := #[.string ((rd_T106 l0 x8_1).f0.f0), .string ((rd_T106 l0 x8_1).f0.f1), .string (⟨#[]⟩ : ByteArray), .bool false, .string (⟨#[]⟩ : ByteArray), .string (⟨#[]⟩ : ByteArray), .string (⟨#[]⟩ : ByteArray), .string (⟨#[]⟩ : ByteArray), .bool false]) ?_ 2 _ rfl; (with_reducible repeat (first | refine blk_drewN ?_ _ | refine blk_drew ?_ | refine blk_alloc ?_ _)); refine blk_put (cs := #[.string ((rd_T106 l0 x8_1).f0.f0), .string (⟨#[]⟩ : ByteArray), .string (⟨#[]⟩ : ByteArray), .bool false, .string (⟨#[]⟩ : ByteArray), .string (⟨#[]⟩ : ByteArray), .string (⟨#[]⟩ : ByteArray), .string (⟨#[]⟩ : ByteArray), .bool false]) ?_ 1 _ rfl; (with_reducible repeat (first | refine blk_drewN ?_ _ | refine blk_drew ?_ | refine blk_alloc ?_ _)); refine blk_put (cs := #[.string (⟨#[]⟩ : ByteArray), .string (⟨#[]⟩ : ByteArray), .string (⟨#[]⟩ : ByteArray), .bool false, .string (⟨#[]⟩ : ByteArray), .string (⟨#[]⟩ : ByteArray), .string (⟨#[]⟩ : ByteArray), .string (⟨#[]⟩ : ByteArray), .bool false]) ?_ 0 _ rfl; (with_reducible repeat (first | refine blk_drewN ?_ _ | refine blk_drew ?_ | refine blk_alloc ?_ _)); exact BK137.out) hb); have n1_ := Aside0.mk (below_step (by repeat (first | (with_reducible first | exact HB.out | apply below_alloc | apply pw_below_drewN | apply below_drew1 | refine below_set ?_ GE137.out) | exact HB.out)) hb); clear BK137; clear HB; have BK137 := n0_; have HB := n1_; clear n0_ n1_; (try clear hb); (try clear hb2); (try clear hk); (try clear hi); have hcz15_0 : w14.cell? ⟨gb137, 0, none⟩ = some (.string ((rd_T106 l0 x8_1).f0.f0)) := (blk_cell BK137.out 0).trans rfl; have hcz15_1 : w14.cell? ⟨gb137, 1, none⟩ = some (.string ((rd_T106 l0 x8_1).f0.f1)) := (blk_cell BK137.out 1).trans rfl; have hcz15_2 : w14.cell? ⟨gb137, 2, none⟩ = some (.string ((rd_T106 l0 x8_1).f0.f2)) := (blk_cell BK137.out 2).trans rfl; have hcz15_3 : w14.cell? ⟨gb137, 3, none⟩ = some (.bool ((rd_T106 l0 x8_1).f1)) := (blk_cell BK137.out 3).trans rfl; have hcz15_4 : w14.cell? ⟨gb137, 4, none⟩ = some (.string ((rd_T106 l0 x8_1).f2)) := (blk_cell BK137.out 4).trans rfl; have hcz15_5 : w14.cell? ⟨gb137, 5, none⟩ = some (.string ((rd_T106 l0 x8_1).f3)) := (blk_cell BK137.out 5).trans rfl; have hcz15_6 : w14.cell? ⟨gb137, 6, none⟩ = some (.string ((rd_T106 l0 x8_1).f4)) := (blk_cell BK137.out 6).trans rfl; have hcz15_7 : w14.cell? ⟨gb137, 7, none⟩ = some (.string ((rd_T106 l0 x8_1).f5)) := (blk_cell BK137.out 7).trans rfl; have hcz15_8 : w14.cell? ⟨gb137, 8, none⟩ = some (.bool ((rd_T106 l0 x8_1).f6)) := (blk_cell BK137.out 8).trans rfl; have hfz15_0 := blk_frozen BK137.out 0; have hfz15_1 := blk_frozen BK137.out 1; have hfz15_2 := blk_frozen BK137.out 2; have hfz15_3 := blk_frozen BK137.out 3; have hfz15_4 := blk_frozen BK137.out 4; have hfz15_5 := blk_frozen BK137.out 5; have hfz15_6 := blk_frozen BK137.out 6; have hfz15_7 := blk_frozen BK137.out 7; have hfz15_8 := blk_frozen BK137.out 8) | (go_at_call 113; (with_reducible refine (doc_Part_isConflict.calls ((rd_T106 l0 x8_1).f0.f0) ((rd_T106 l0 x8_1).f0.f1) ((rd_T106 l0 x8_1).f0.f2) ((rd_T106 l0 x8_1).f1) ((rd_T106 l0 x8_1).f2) ((rd_T106 l0 x8_1).f3) ((rd_T106 l0 x8_1).f4) ((rd_T106 l0 x8_1).f5) ((rd_T106 l0 x8_1).f6) t139 _ A12.out).mono ?_); rintro e w16 ⟨rfl, hb⟩; have n0_ := Aside0.mk (blk_below (g := gb137) (o := .cells #[.string ((rd_T106 l0 x8_1).f0.f0), .string ((rd_T106 l0 x8_1).f0.f1), .string ((rd_T106 l0 x8_1).f0.f2), .bool ((rd_T106 l0 x8_1).f1), .string ((rd_T106 l0 x8_1).f2), .string ((rd_T106 l0 x8_1).f3), .string ((rd_T106 l0 x8_1).f4), .string ((rd_T106 l0 x8_1).f5), .bool ((rd_T106 l0 x8_1).f6)] 106 (0, 0)) (by (with_reducible repeat (first | refine blk_drewN ?_ _ | refine blk_drew ?_ | refine blk_alloc ?_ _)); exact BK137.out) hb); have n1_ := Aside0.mk (below_step (by repeat (first | (with_reducible first | exact HB.out | apply below_alloc | apply pw_below_drewN | apply below_drew1 | refine below_set ?_ GE137.out) | exact HB.out)) hb); clear BK137; clear HB; have BK137 := n0_; have HB := n1_; clear n0_ n1_; (try clear hb); (try clear hb2); (try clear hk); (try clear hi)))
                go_meet
                case rel => exact ⟨_, (!t139), (by first | rfl | (simp; done) | (simp [*]; done)), H', ⟨by have := HK1.out; first | omega | exact Nat.le_refl _⟩, ⟨by (with_reducible repeat (first | refine blk_drewN ?_ _ | refine blk_drew ?_ | refine blk_alloc ?_ _)); exact BK137.out⟩, ⟨by repeat (first | (with_reducible first | exact HB.out | apply below_alloc | apply pw_below_drewN | apply below_drew1 | refine below_set ?_ GE137.out) | exact HB.out)⟩⟩
            case rest =>
              clear HC5
              try clear p1
              try clear q1
              try clear hx1
              try clear c2
              try clear c2b0
              try clear p2
              try clear c3
              try clear c3b0
              try clear c4
              try clear c4b0
              try clear c7
              try clear c9
              try clear p13
              try clear q13
              try clear hx13
              try clear hcz10_0
              try clear hcz10_1
              try clear hcz10_2
              try clear hcz10_3
              try clear hcz10_4
              try clear hcz10_5
              try clear hcz10_6
              try clear hcz10_7
              try clear hcz10_8
              try clear hcz13_0
              try clear hcz13_1
              try clear hcz13_2
              try clear hcz13_3
              try clear hcz13_4
              try clear hcz13_5
              try clear hcz13_6
              try clear hcz13_7
              try clear hcz13_8
              try clear hcz15_0
              try clear hcz15_1
              try clear hcz15_2
              try clear hcz15_3
              try clear hcz15_4
              try clear hcz15_5
              try clear hcz15_6
              try clear hcz15_7
              try clear hcz15_8
              try clear hcz7_0
              try clear hcz7_1
              try clear hcz7_2
              try clear hcz7_3
              try clear hcz7_4
              try clear hcz7_5
              try clear hcz7_6
              try clear hcz7_7
              try clear hcz7_8
              try clear hfz10_0
              try clear hfz10_1
              try clear hfz10_2
              try clear hfz10_3
              try clear hfz10_4
              try clear hfz10_5
              try clear hfz10_6
              try clear hfz10_7
              try clear hfz10_8
              try clear hfz13_0
              try clear hfz13_1
              try clear hfz13_2
              try clear hfz13_3
              try clear hfz13_4
              try clear hfz13_5
              try clear hfz13_6
              try clear hfz13_7
              try clear hfz13_8
              try clear hfz15_0
              try clear hfz15_1
              try clear hfz15_2
              try clear hfz15_3
              try clear hfz15_4
              try clear hfz15_5
              try clear hfz15_6
              try clear hfz15_7
              try clear hfz15_8
              try clear hfz7_0
              try clear hfz7_1
              try clear hfz7_2
              try clear hfz7_3
              try clear hfz7_4
              try clear hfz7_5
              try clear hfz7_6
              try clear hfz7_7
              try clear hfz7_8
              try clear hx136_0
              try clear hx136_1
              try clear hx136_2
              try clear hx136_3
              try clear hx136_4
              try clear hx136_5
              try clear hx136_6
              try clear hx136_7
              try clear hx136_8
              try clear p136
              try clear q136
              obtain ⟨kq, x13_4, rfl, HA, HJ4, BK137, HB⟩ := hcut
              cases kq with
              | zero => exact absurd HA.out (by simp [doc_Doc_Right.j1])
              | succ kj4 =>
                have H := HA.out
                clear HA
                simp only [doc_Doc_Right.j1] at H
                have HC17 := Aside0.mk H
                clear H
                go_upto_if 13 with (fail)
                go_cut [13] (fun v13 wc => ∃ (kq : Nat) (x13_16 : Bool), v13 = .bool x13_16 ∧ Aside0 (doc_Doc_Right.j2 kq l0 x3_1 x8_1 l0 (l0.length : Int) x8_1 x13_16 ((rd_T106 l0 x8_1).f0.f0) ((rd_T106 l0 x8_1).f0.f1) ((rd_T106 l0 x8_1).f0.f2) ((rd_T106 l0 x8_1).f1) ((rd_T106 l0 x8_1).f2) ((rd_T106 l0 x8_1).f3) ((rd_T106 l0 x8_1).f4) ((rd_T106 l0 x8_1).f5) ((rd_T106 l0 x8_1).f6) = some r) ∧ Aside0 (kq ≤ kj4) ∧ Aside0 (wc.heap[gb137]? = some (.cells #[.string ((rd_T106 l0 x8_1).f0.f0), .string ((rd_T106 l0 x8_1).f0.f1), .string ((rd_T106 l0 x8_1).f0.f2), .bool ((rd_T106 l0 x8_1).f1), .string ((rd_T106 l0 x8_1).f2), .string ((rd_T106 l0 x8_1).f3), .string ((rd_T106 l0 x8_1).f4), .string ((rd_T106 l0 x8_1).f5), .bool ((rd_T106 l0 x8_1).f6)] 106 (0, 0))) ∧ Aside0 (Below w.heap.size w wc))
                case first =>
                  have H := HC17.out
                  clear HC17
                  by_cases c18 : x13_4 = true
                  · subst c18
                    have H1 : (doc_Doc_Right.j2 kj4 l0 x3_1 x8_1 l0 (l0.length : Int) x8_1 true ((rd_T106 l0 x8_1).f0.f0) ((rd_T106 l0 x8_1).f0.f1) ((rd_T106 l0 x8_1).f0.f2) ((rd_T106 l0 x8_1).f1) ((rd_T106 l0 x8_1).f2) ((rd_T106 l0 x8_1).f3) ((rd_T106 l0 x8_1).f4) ((rd_T106 l0 x8_1).f5) ((rd_T106 l0 x8_1).f6)) = some r := by rw [if_pos rfl] at H; exact H
                    clear H
                    have H := H1
                    clear H1
                    have H' := Aside0.mk H
                    clear H
                    go_wp2
                    go_meet
                    case rel => exact ⟨_, (true), (by first | rfl | (simp; done) | (simp [*]; done)), H', ⟨by have := HK1.out; have := HJ4.out; first | omega | exact Nat.le_refl _⟩, ⟨by (with_reducible repeat (first | refine blk_drewN ?_ _ | refine blk_drew ?_ | refine blk_alloc ?_ _)); exact BK137.out⟩, ⟨by repeat (first | (with_reducible first | exact HB.out | apply below_alloc | apply pw_below_drewN | apply below_drew1 | refine below_set ?_ GE137.out) | exact HB.out)⟩⟩
                  · replace c18 := Bool.eq_false_iff.mpr c18
                    subst c18
                    have H1 : ((doc_Labels_Plain.f ((rd_T106 l0 x8_1).f0.f0) ((rd_T106 l0 x8_1).f0.f1) ((rd_T106 l0 x8_1).f0.f2)).bind fun t140 => (doc_Doc_Right.j2 kj4 l0 x3_1 x8_1 l0 (l0.length : Int) x8_1 (!t140) ((rd_T106 l0 x8_1).f0.f0) ((rd_T106 l0 x8_1).f0.f1) ((rd_T106 l0 x8_1).f0.f2) ((rd_T106 l0 x8_1).f1) ((rd_T106 l0 x8_1).f2) ((rd_T106 l0 x8_1).f3) ((rd_T106 l0 x8_1).f4) ((rd_T106 l0 x8_1).f5) ((rd_T106 l0 x8_1).f6))) = some r := by rw [if_neg (show ¬ (false = true) by decide)] at H; exact H
                    clear H
                    have H := H1
                    clear H1
                    replace H := Option.bind_eq_some_iff.mp H
                    obtain ⟨t140, A190, H⟩ := H
                    replace H : (doc_Doc_Right.j2 kj4 l0 x3_1 x8_1 l0 (l0.length : Int) x8_1 (!t140) ((rd_T106 l0 x8_1).f0.f0) ((rd_T106 l0 x8_1).f0.f1) ((rd_T106 l0 x8_1).f0.f2) ((rd_T106 l0 x8_1).f1) ((rd_T106 l0 x8_1).f2) ((rd_T106 l0 x8_1).f3) ((rd_T106 l0 x8_1).f4) ((rd_T106 l0 x8_1).f5) ((rd_T106 l0 x8_1).f6)) = some r := H
                    have A19 := Aside0.mk A190
                    clear A190
                    have H' := Aside0.mk H
                    clear H
                    have hcz20_0 : wc.cell? ⟨gb137, 0, none⟩ = some (.string ((rd_T106 l0 x8_1).f0.f0)) := (blk_cell BK137.out 0).trans rfl
                    have hcz20_1 : wc.cell? ⟨gb137, 1, none⟩ = some (.string ((rd_T106 l0 x8_1).f0.f1)) := (blk_cell BK137.out 1).trans rfl
                    have hcz20_2 : wc.cell? ⟨gb137, 2, none⟩ = some (.string ((rd_T106 l0 x8_1).f0.f2)) := (blk_cell BK137.out 2).trans rfl
                    have hcz20_3 : wc.cell? ⟨gb137, 3, none⟩ = some (.bool ((rd_T106 l0 x8_1).f1)) := (blk_cell BK137.out 3).trans rfl
                    have hcz20_4 : wc.cell? ⟨gb137, 4, none⟩ = some (.string ((rd_T106 l0 x8_1).f2)) := (blk_cell BK137.out 4).trans rfl
                    have hcz20_5 : wc.cell? ⟨gb137, 5, none⟩ = some (.string ((rd_T106 l0 x8_1).f3)) := (blk_cell BK137.out 5).trans rfl
                    have hcz20_6 : wc.cell? ⟨gb137, 6, none⟩ = some (.string ((rd_T106 l0 x8_1).f4)) := (blk_cell BK137.out 6).trans rfl
                    have hcz20_7 : wc.cell? ⟨gb137, 7, none⟩ = some (.string ((rd_T106 l0 x8_1).f5)) := (blk_cell BK137.out 7).trans rfl
                    have hcz20_8 : wc.cell? ⟨gb137, 8, none⟩ = some (.bool ((rd_T106 l0 x8_1).f6)) := (blk_cell BK137.out 8).trans rfl
                    have hfz20_0 := blk_frozen BK137.out 0
                    have hfz20_1 := blk_frozen BK137.out 1
                    have hfz20_2 := blk_frozen BK137.out 2
                    have hfz20_3 := blk_frozen BK137.out 3
                    have hfz20_4 := blk_frozen BK137.out 4
                    have hfz20_5 := blk_frozen BK137.out 5
                    have hfz20_6 := blk_frozen BK137.out 6
                    have hfz20_7 := blk_frozen BK137.out 7
                    have hfz20_8 := blk_frozen BK137.out 8
                    go_wp2_with (first | ((with_reducible refine gate_callee (f := 114) rfl ?_); refine goesL_ (some 24) rfl rfl Try.func114 (by kernel_rfl) rfl #[.agg #[.string ((rd_T106 l0 x8_1).f0.f0), .string ((rd_T106 l0 x8_1).f0.f1), .string ((rd_T106 l0 x8_1).f0.f2)]] rfl (by (try simp only [List.map_toArray, List.map_cons, List.map_nil]); first | done | rfl | (simp only [List.length_drop, List.length_take]; rfl)) ?_; (with_reducible refine (doc_Labels_Plain.calls ((rd_T106 l0 x8_1).f0.f0) ((rd_T106 l0 x8_1).f0.f1) ((rd_T106 l0 x8_1).f0.f2) t140 _ A19.out).mono ?_); rintro e w21 ⟨rfl, hb⟩; refine ⟨_, rfl, ?_⟩; have n0_ := Aside0.mk (blk_below (g := gb137) (o := .cells #[.string ((rd_T106 l0 x8_1).f0.f0), .string ((rd_T106 l0 x8_1).f0.f1), .string ((rd_T106 l0 x8_1).f0.f2), .bool ((rd_T106 l0 x8_1).f1), .string ((rd_T106 l0 x8_1).f2), .string ((rd_T106 l0 x8_1).f3), .string ((rd_T106 l0 x8_1).f4), .string ((rd_T106 l0 x8_1).f5), .bool ((rd_T106 l0 x8_1).f6)] 106 (0, 0)) (by (with_reducible repeat (first | refine blk_drewN ?_ _ | refine blk_drew ?_ | refine blk_alloc ?_ _)); exact BK137.out) hb); have n1_ := Aside0.mk (below_step (by repeat (first | (with_reducible first | exact HB.out | apply below_alloc | apply pw_below_drewN | apply below_drew1 | refine below_set ?_ GE137.out) | exact HB.out)) hb); clear BK137; clear HB; have BK137 := n0_; have HB := n1_; clear n0_ n1_; (try clear hb); (try clear hb2); (try clear hk); (try clear hi)))
                    go_meet
                    case rel => exact ⟨_, (!t140), (by first | rfl | (simp; done) | (simp [*]; done)), H', ⟨by have := HK1.out; have := HJ4.out; first | omega | exact Nat.le_refl _⟩, ⟨by (with_reducible repeat (first | refine blk_drewN ?_ _ | refine blk_drew ?_ | refine blk_alloc ?_ _)); exact BK137.out⟩, ⟨by repeat (first | (with_reducible first | exact HB.out | apply below_alloc | apply pw_below_drewN | apply below_drew1 | refine below_set ?_ GE137.out) | exact HB.out)⟩⟩
                case rest =>
                  clear HC17
                  try clear c1
                  try clear p1
                  try clear q1
                  try clear hx1
                  try clear c2
                  try clear c2b0
                  try clear p2
                  try clear c3
                  try clear c3b0
                  try clear c4
                  try clear c4b0
                  try clear c7
                  try clear c9
                  try clear c11
                  try clear p13
                  try clear q13
                  try clear hx13
                  try clear c18
                  try clear hcz10_0
                  try clear hcz10_1
                  try clear hcz10_2
                  try clear hcz10_3
                  try clear hcz10_4
                  try clear hcz10_5
                  try clear hcz10_6
                  try clear hcz10_7
                  try clear hcz10_8
                  try clear hcz13_0
                  try clear hcz13_1
                  try clear hcz13_2
                  try clear hcz13_3
                  try clear hcz13_4
                  try clear hcz13_5
                  try clear hcz13_6
                  try clear hcz13_7
                  try clear hcz13_8
                  try clear hcz15_0
                  try clear hcz15_1
                  try clear hcz15_2
                  try clear hcz15_3
                  try clear hcz15_4
                  try clear hcz15_5
                  try clear hcz15_6
                  try clear hcz15_7
                  try clear hcz15_8
                  try clear hcz20_0
                  try clear hcz20_1
                  try clear hcz20_2
                  try clear hcz20_3
                  try clear hcz20_4
                  try clear hcz20_5
                  try clear hcz20_6
                  try clear hcz20_7
                  try clear hcz20_8
                  try clear hcz7_0
                  try clear hcz7_1
                  try clear hcz7_2
                  try clear hcz7_3
                  try clear hcz7_4
                  try clear hcz7_5
                  try clear hcz7_6
                  try clear hcz7_7
                  try clear hcz7_8
                  try clear hfz10_0
                  try clear hfz10_1
                  try clear hfz10_2
                  try clear hfz10_3
                  try clear hfz10_4
                  try clear hfz10_5
                  try clear hfz10_6
                  try clear hfz10_7
                  try clear hfz10_8
                  try clear hfz13_0
                  try clear hfz13_1
                  try clear hfz13_2
                  try clear hfz13_3
                  try clear hfz13_4
                  try clear hfz13_5
                  try clear hfz13_6
                  try clear hfz13_7
                  try clear hfz13_8
                  try clear hfz15_0
                  try clear hfz15_1
                  try clear hfz15_2
                  try clear hfz15_3
                  try clear hfz15_4
                  try clear hfz15_5
                  try clear hfz15_6
                  try clear hfz15_7
                  try clear hfz15_8
                  try clear hfz20_0
                  try clear hfz20_1
                  try clear hfz20_2
                  try clear hfz20_3
                  try clear hfz20_4
                  try clear hfz20_5
                  try clear hfz20_6
                  try clear hfz20_7
                  try clear hfz20_8
                  try clear hfz7_0
                  try clear hfz7_1
                  try clear hfz7_2
                  try clear hfz7_3
                  try clear hfz7_4
                  try clear hfz7_5
                  try clear hfz7_6
                  try clear hfz7_7
                  try clear hfz7_8
                  try clear hx136_0
                  try clear hx136_1
                  try clear hx136_2
                  try clear hx136_3
                  try clear hx136_4
                  try clear hx136_5
                  try clear hx136_6
                  try clear hx136_7
                  try clear hx136_8
                  try clear p1
                  try clear p13
                  try clear p136
                  try clear p2
                  try clear q1
                  try clear q13
                  try clear q136
                  obtain ⟨kq, x13_16, rfl, HA, HJ16, BK137, HB⟩ := hcut
                  cases kq with
                  | zero => exact absurd HA.out (by simp [doc_Doc_Right.j2])
                  | succ kj16 =>
                    have H := HA.out
                    clear HA
                    simp only [doc_Doc_Right.j2] at H
                    by_cases c22 : x13_16 = true
                    · subst c22
                      have H1 : (some false) = some r := by rw [if_pos rfl] at H; exact H
                      clear H
                      have H := H1
                      clear H1
                      obtain rfl := Option.some.inj H
                      go_wp2
                      go_ret
                      exact ⟨by first | rfl | (simp [errW_none, errW_some] <;> rfl) | (simp [*, errW_none, errW_some] <;> rfl), by repeat (first | (with_reducible first | exact HB.out | apply below_alloc | apply pw_below_drewN | apply below_drew1 | refine below_set ?_ GE137.out) | exact HB.out)⟩
                    · replace c22 := Bool.eq_false_iff.mpr c22
                      subst c22
                      have H1 : ((doc_Part_isText.f ((rd_T106 l0 x8_1).f0.f0) ((rd_T106 l0 x8_1).f0.f1) ((rd_T106 l0 x8_1).f0.f2) ((rd_T106 l0 x8_1).f1) ((rd_T106 l0 x8_1).f2) ((rd_T106 l0 x8_1).f3) ((rd_T106 l0 x8_1).f4) ((rd_T106 l0 x8_1).f5) ((rd_T106 l0 x8_1).f6)).bind fun t141 => (if t141 = true then (if x3_1 = true then (some false) else (if ((rd_T106 l0 x8_1).f2).toList = ([] : List UInt8) then (some false) else (if x8_1 < (wrap64 ((l0.length : Int) - 1)) then ((strings_HasSuffix.f ((rd_T106 l0 x8_1).f2) (⟨#[10]⟩ : ByteArray)).bind fun t142 => (if t142 = true then ((doc_Part_isText.f ((rd_T106 l0 x8_1).f0.f0) ((rd_T106 l0 x8_1).f0.f1) ((rd_T106 l0 x8_1).f0.f2) ((rd_T106 l0 x8_1).f1) ((rd_T106 l0 x8_1).f2) ((rd_T106 l0 x8_1).f3) ((rd_T106 l0 x8_1).f4) ((rd_T106 l0 x8_1).f5) ((rd_T106 l0 x8_1).f6)).bind fun t143 => (doc_Doc_Right.l0 kj16 l0 t143 l0 (l0.length : Int) (wrap64 (x8_1 + 1)))) else (some false))) else ((doc_Part_isText.f ((rd_T106 l0 x8_1).f0.f0) ((rd_T106 l0 x8_1).f0.f1) ((rd_T106 l0 x8_1).f0.f2) ((rd_T106 l0 x8_1).f1) ((rd_T106 l0 x8_1).f2) ((rd_T106 l0 x8_1).f3) ((rd_T106 l0 x8_1).f4) ((rd_T106 l0 x8_1).f5) ((rd_T106 l0 x8_1).f6)).bind fun t144 => (doc_Doc_Right.l0 kj16 l0 t144 l0 (l0.length : Int) (wrap64 (x8_1 + 1))))))) else ((doc_Part_isText.f ((rd_T106 l0 x8_1).f0.f0) ((rd_T106 l0 x8_1).f0.f1) ((rd_T106 l0 x8_1).f0.f2) ((rd_T106 l0 x8_1).f1) ((rd_T106 l0 x8_1).f2) ((rd_T106 l0 x8_1).f3) ((rd_T106 l0 x8_1).f4) ((rd_T106 l0 x8_1).f5) ((rd_T106 l0 x8_1).f6)).bind fun t145 => (doc_Doc_Right.l0 kj16 l0 t145 l0 (l0.length : Int) (wrap64 (x8_1 + 1)))))) = some r := by rw [if_neg (show ¬ (false = true) by decide)] at H; exact H
                      clear H
                      have H := H1
                      clear H1
                      replace H := Option.bind_eq_some_iff.mp H
                      obtain ⟨t141, A230, H⟩ := H
                      replace H : (if t141 = true then (if x3_1 = true then (some false) else (if ((rd_T106 l0 x8_1).f2).toList = ([] : List UInt8) then (some false) else (if x8_1 < (wrap64 ((l0.length : Int) - 1)) then ((strings_HasSuffix.f ((rd_T106 l0 x8_1).f2) (⟨#[10]⟩ : ByteArray)).bind fun t142 => (if t142 = true then ((doc_Part_isText.f ((rd_T106 l0 x8_1).f0.f0) ((rd_T106 l0 x8_1).f0.f1) ((rd_T106 l0 x8_1).f0.f2) ((rd_T106 l0 x8_1).f1) ((rd_T106 l0 x8_1).f2) ((rd_T106 l0 x8_1).f3) ((rd_T106 l0 x8_1).f4) ((rd_T106 l0 x8_1).f5) ((rd_T106 l0 x8_1).f6)).bind fun t143 => (doc_Doc_Right.l0 kj16 l0 t143 l0 (l0.length : Int) (wrap64 (x8_1 + 1)))) else (some false))) else ((doc_Part_isText.f ((rd_T106 l0 x8_1).f0.f0) ((rd_T106 l0 x8_1).f0.f1) ((rd_T106 l0 x8_1).f0.f2) ((rd_T106 l0 x8_1).f1) ((rd_T106 l0 x8_1).f2) ((rd_T106 l0 x8_1).f3) ((rd_T106 l0 x8_1).f4) ((rd_T106 l0 x8_1).f5) ((rd_T106 l0 x8_1).f6)).bind fun t144 => (doc_Doc_Right.l0 kj16 l0 t144 l0 (l0.length : Int) (wrap64 (x8_1 + 1))))))) else ((doc_Part_isText.f ((rd_T106 l0 x8_1).f0.f0) ((rd_T106 l0 x8_1).f0.f1) ((rd_T106 l0 x8_1).f0.f2) ((rd_T106 l0 x8_1).f1) ((rd_T106 l0 x8_1).f2) ((rd_T106 l0 x8_1).f3) ((rd_T106 l0 x8_1).f4) ((rd_T106 l0 x8_1).f5) ((rd_T106 l0 x8_1).f6)).bind fun t145 => (doc_Doc_Right.l0 kj16 l0 t145 l0 (l0.length : Int) (wrap64 (x8_1 + 1))))) = some r := H
                      have A23 := Aside0.mk A230
                      clear A230
                      by_cases c24 : t141 = true
                      · subst c24
                        have H1 : (if x3_1 = true then (some false) else (if ((rd_T106 l0 x8_1).f2).toList = ([] : List UInt8) then (some false) else (if x8_1 < (wrap64 ((l0.length : Int) - 1)) then ((strings_HasSuffix.f ((rd_T106 l0 x8_1).f2) (⟨#[10]⟩ : ByteArray)).bind fun t142 => (if t142 = true then ((doc_Part_isText.f ((rd_T106 l0 x8_1).f0.f0) ((rd_T106 l0 x8_1).f0.f1) ((rd_T106 l0 x8_1).f0.f2) ((rd_T106 l0 x8_1).f1) ((rd_T106 l0 x8_1).f2) ((rd_T106 l0 x8_1).f3) ((rd_T106 l0 x8_1).f4) ((rd_T106 l0 x8_1).f5) ((rd_T106 l0 x8_1).f6)).bind fun t143 => (doc_Doc_Right.l0 kj16 l0 t143 l0 (l0.length : Int) (wrap64 (x8_1 + 1)))) else (some false))) else ((doc_Part_isText.f ((rd_T106 l0 x8_1).f0.f0) ((rd_T106 l0 x8_1).f0.f1) ((rd_T106 l0 x8_1).f0.f2) ((rd_T106 l0 x8_1).f1) ((rd_T106 l0 x8_1).f2) ((rd_T106 l0 x8_1).f3) ((rd_T106 l0 x8_1).f4) ((rd_T106 l0 x8_1).f5) ((rd_T106 l0 x8_1).f6)).bind fun t144 => (doc_Doc_Right.l0 kj16 l0 t144 l0 (l0.length : Int) (wrap64 (x8_1 + 1))))))) = some r := by rw [if_pos rfl] at H; exact H
                        clear H
                        have H := H1
                        clear H1
                        by_cases c25 : x3_1 = true
                        · subst c25
                          have H1 : (some false) = some r := by rw [if_pos rfl] at H; exact H
                          clear H
                          have H := H1
                          clear H1
                          obtain rfl := Option.some.inj H
                          have hcz26_0 : wc.cell? ⟨gb137, 0, none⟩ = some (.string ((rd_T106 l0 x8_1).f0.f0)) := (blk_cell BK137.out 0).trans rfl
                          have hcz26_1 : wc.cell? ⟨gb137, 1, none⟩ = some (.string ((rd_T106 l0 x8_1).f0.f1)) := (blk_cell BK137.out 1).trans rfl
                          have hcz26_2 : wc.cell? ⟨gb137, 2, none⟩ = some (.string ((rd_T106 l0 x8_1).f0.f2)) := (blk_cell BK137.out 2).trans rfl
                          have hcz26_3 : wc.cell? ⟨gb137, 3, none⟩ = some (.bool ((rd_T106 l0 x8_1).f1)) := (blk_cell BK137.out 3).trans rfl
                          have hcz26_4 : wc.cell? ⟨gb137, 4, none⟩ = some (.string ((rd_T106 l0 x8_1).f2)) := (blk_cell BK137.out 4).trans rfl
                          have hcz26_5 : wc.cell? ⟨gb137, 5, none⟩ = some (.string ((rd_T106 l0 x8_1).f3)) := (blk_cell BK137.out 5).trans rfl
                          have hcz26_6 : wc.cell? ⟨gb137, 6, none⟩ = some (.string ((rd_T106 l0 x8_1).f4)) := (blk_cell BK137.out 6).trans rfl
                          have hcz26_7 : wc.cell? ⟨gb137, 7, none⟩ = some (.string ((rd_T106 l0 x8_1).f5)) := (blk_cell BK137.out 7).trans rfl
                          have hcz26_8 : wc.cell? ⟨gb137, 8, none⟩ = some (.bool ((rd_T106 l0 x8_1).f6)) := (blk_cell BK137.out 8).trans rfl
                          have hfz26_0 := blk_frozen BK137.out 0
                          have hfz26_1 := blk_frozen BK137.out 1
                          have hfz26_2 := blk_frozen BK137.out 2
                          have hfz26_3 := blk_frozen BK137.out 3
                          have hfz26_4 := blk_frozen BK137.out 4
                          have hfz26_5 := blk_frozen BK137.out 5
                          have hfz26_6 := blk_frozen BK137.out 6
                          have hfz26_7 := blk_frozen BK137.out 7
                          have hfz26_8 := blk_frozen BK137.out 8
                          go_wp2_with (first | ((with_reducible refine gate_callee (f := 75) rfl ?_); refine goesL_ (some 28) rfl rfl Try.func75 (by kernel_rfl) rfl #[.agg #[.string ((rd_T106 l0 x8_1).f0.f0), .string ((rd_T106 l0 x8_1).f0.f1), .string ((rd_T106 l0 x8_1).f0.f2), .bool ((rd_T106 l0 x8_1).f1), .string ((rd_T106 l0 x8_1).f2), .string ((rd_T106 l0 x8_1).f3), .string ((rd_T106 l0 x8_1).f4), .string ((rd_T106 l0 x8_1).f5), .bool ((rd_T106 l0 x8_1).f6)]] rfl (by (try simp only [List.map_toArray, List.map_cons, List.map_nil]); first | done | rfl | (simp only [List.length_drop, List.length_take]; rfl)) ?_; (with_reducible refine (doc_Part_isText.calls ((rd_T106 l0 x8_1).f0.f0) ((rd_T106 l0 x8_1).f0.f1) ((rd_T106 l0 x8_1).f0.f2) ((rd_T106 l0 x8_1).f1) ((rd_T106 l0 x8_1).f2) ((rd_T106 l0 x8_1).f3) ((rd_T106 l0 x8_1).f4) ((rd_T106 l0 x8_1).f5) ((rd_T106 l0 x8_1).f6) true _ A23.out).mono ?_); rintro e w27 ⟨rfl, hb⟩; refine ⟨_, rfl, ?_⟩; have n0_ := Aside0.mk (blk_below (g := gb137) (o := .cells #[.string ((rd_T106 l0 x8_1).f0.f0), .string ((rd_T106 l0 x8_1).f0.f1), .string ((rd_T106 l0 x8_1).f0.f2), .bool ((rd_T106 l0 x8_1).f1), .string ((rd_T106 l0 x8_1).f2), .string ((rd_T106 l0 x8_1).f3), .string ((rd_T106 l0 x8_1).f4), .string ((rd_T106 l0 x8_1).f5), .bool ((rd_T106 l0 x8_1).f6)] 106 (0, 0)) (by (with_reducible repeat (first | refine blk_drewN ?_ _ | refine blk_drew ?_ | refine blk_alloc ?_ _)); exact BK137.out) hb); have n1_ := Aside0.mk (below_step (by repeat (first | (with_reducible first | exact HB.out | apply below_alloc | apply pw_below_drewN | apply below_drew1 | refine below_set ?_ GE137.out) | exact HB.out)) hb); clear BK137; clear HB; have BK137 := n0_; have HB := n1_; clear n0_ n1_; (try clear hb); (try clear hb2); (try clear hk); (try clear hi)))
                          go_ret
                          exact ⟨by first | rfl | (simp [errW_none, errW_some] <;> rfl) | (simp [*, errW_none, errW_some] <;> rfl), by repeat (first | (with_reducible first | exact HB.out | apply below_alloc | apply pw_below_drewN | apply below_drew1 | refine below_set ?_ GE137.out) | exact HB.out)⟩
                        · replace c25 := Bool.eq_false_iff.mpr c25
                          subst c25
                          have H1 : (if ((rd_T106 l0 x8_1).f2).toList = ([] : List UInt8) then (some false) else (if x8_1 < (wrap64 ((l0.length : Int) - 1)) then ((strings_HasSuffix.f ((rd_T106 l0 x8_1).f2) (⟨#[10]⟩ : ByteArray)).bind fun t142 => (if t142 = true then ((doc_Part_isText.f ((rd_T106 l0 x8_1).f0.f0) ((rd_T106 l0 x8_1).f0.f1) ((rd_T106 l0 x8_1).f0.f2) ((rd_T106 l0 x8_1).f1) ((rd_T106 l0 x8_1).f2) ((rd_T106 l0 x8_1).f3) ((rd_T106 l0 x8_1).f4) ((rd_T106 l0 x8_1).f5) ((rd_T106 l0 x8_1).f6)).bind fun t143 => (doc_Doc_Right.l0 kj16 l0 t143 l0 (l0.length : Int) (wrap64 (x8_1 + 1)))) else (some false))) else ((doc_Part_isText.f ((rd_T106 l0 x8_1).f0.f0) ((rd_T106 l0 x8_1).f0.f1) ((rd_T106 l0 x8_1).f0.f2) ((rd_T106 l0 x8_1).f1) ((rd_T106 l0 x8_1).f2) ((rd_T106 l0 x8_1).f3) ((rd_T106 l0 x8_1).f4) ((rd_T106 l0 x8_1).f5) ((rd_T106 l0 x8_1).f6)).bind fun t144 => (doc_Doc_Right.l0 kj16 l0 t144 l0 (l0.length : Int) (wrap64 (x8_1 + 1)))))) = some r := by rw [if_neg (show ¬ (false = true) by decide)] at H; exact H
                          clear H
                          have H := H1
                          clear H1
                          by_cases c28 : ((rd_T106 l0 x8_1).f2).toList = ([] : List UInt8)
                          · rw [if_pos c28] at H
                            have c28b0 : (((rd_T106 l0 x8_1).f2).toList == ([] : List UInt8)) = true := beq_iff_eq.mpr c28
                            have c28b1 : (((rd_T106 l0 x8_1).f2).toList != ([] : List UInt8)) = false := bne_eq_false_iff_eq.mpr c28
                            clear c28
                            obtain rfl := Option.some.inj H
                            have hcz29_0 : wc.cell? ⟨gb137, 0, none⟩ = some (.string ((rd_T106 l0 x8_1).f0.f0)) := (blk_cell BK137.out 0).trans rfl
                            have hcz29_1 : wc.cell? ⟨gb137, 1, none⟩ = some (.string ((rd_T106 l0 x8_1).f0.f1)) := (blk_cell BK137.out 1).trans rfl
                            have hcz29_2 : wc.cell? ⟨gb137, 2, none⟩ = some (.string ((rd_T106 l0 x8_1).f0.f2)) := (blk_cell BK137.out 2).trans rfl
                            have hcz29_3 : wc.cell? ⟨gb137, 3, none⟩ = some (.bool ((rd_T106 l0 x8_1).f1)) := (blk_cell BK137.out 3).trans rfl
                            have hcz29_4 : wc.cell? ⟨gb137, 4, none⟩ = some (.string ((rd_T106 l0 x8_1).f2)) := (blk_cell BK137.out 4).trans rfl
                            have hcz29_5 : wc.cell? ⟨gb137, 5, none⟩ = some (.string ((rd_T106 l0 x8_1).f3)) := (blk_cell BK137.out 5).trans rfl
                            have hcz29_6 : wc.cell? ⟨gb137, 6, none⟩ = some (.string ((rd_T106 l0 x8_1).f4)) := (blk_cell BK137.out 6).trans rfl
                            have hcz29_7 : wc.cell? ⟨gb137, 7, none⟩ = some (.string ((rd_T106 l0 x8_1).f5)) := (blk_cell BK137.out 7).trans rfl
                            have hcz29_8 : wc.cell? ⟨gb137, 8, none⟩ = some (.bool ((rd_T106 l0 x8_1).f6)) := (blk_cell BK137.out 8).trans rfl
                            have hfz29_0 := blk_frozen BK137.out 0
                            have hfz29_1 := blk_frozen BK137.out 1
                            have hfz29_2 := blk_frozen BK137.out 2
                            have hfz29_3 := blk_frozen BK137.out 3
                            have hfz29_4 := blk_frozen BK137.out 4
                            have hfz29_5 := blk_frozen BK137.out 5
                            have hfz29_6 := blk_frozen BK137.out 6
                            have hfz29_7 := blk_frozen BK137.out 7
                            have hfz29_8 := blk_frozen BK137.out 8
                            go_wp2_with (first | ((with_reducible refine gate_callee (f := 75) rfl ?_); refine goesL_ (some 28) rfl rfl Try.func75 (by kernel_rfl) rfl #[.agg #[.string ((rd_T106 l0 x8_1).f0.f0), .string ((rd_T106 l0 x8_1).f0.f1), .string ((rd_T106 l0 x8_1).f0.f2), .bool ((rd_T106 l0 x8_1).f1), .string ((rd_T106 l0 x8_1).f2), .string ((rd_T106 l0 x8_1).f3), .string ((rd_T106 l0 x8_1).f4), .string ((rd_T106 l0 x8_1).f5), .bool ((rd_T106 l0 x8_1).f6)]] rfl (by (try simp only [List.map_toArray, List.map_cons, List.map_nil]); first | done | rfl | (simp only [List.length_drop, List.length_take]; rfl)) ?_; (with_reducible refine (doc_Part_isText.calls ((rd_T106 l0 x8_1).f0.f0) ((rd_T106 l0 x8_1).f0.f1) ((rd_T106 l0 x8_1).f0.f2) ((rd_T106 l0 x8_1).f1) ((rd_T106 l0 x8_1).f2) ((rd_T106 l0 x8_1).f3) ((rd_T106 l0 x8_1).f4) ((rd_T106 l0 x8_1).f5) ((rd_T106 l0 x8_1).f6) true _ A23.out).mono ?_); rintro e w30 ⟨rfl, hb⟩; refine ⟨_, rfl, ?_⟩; have n0_ := Aside0.mk (blk_below (g := gb137) (o := .cells #[.string ((rd_T106 l0 x8_1).f0.f0), .string ((rd_T106 l0 x8_1).f0.f1), .string ((rd_T106 l0 x8_1).f0.f2), .bool ((rd_T106 l0 x8_1).f1), .string ((rd_T106 l0 x8_1).f2), .string ((rd_T106 l0 x8_1).f3), .string ((rd_T106 l0 x8_1).f4), .string ((rd_T106 l0 x8_1).f5), .bool ((rd_T106 l0 x8_1).f6)] 106 (0, 0)) (by (with_reducible repeat (first | refine blk_drewN ?_ _ | refine blk_drew ?_ | refine blk_alloc ?_ _)); exact BK137.out) hb); have n1_ := Aside0.mk (below_step (by repeat (first | (with_reducible first | exact HB.out | apply below_alloc | apply pw_below_drewN | apply below_drew1 | refine below_set ?_ GE137.out) | exact HB.out)) hb); clear BK137; clear HB; have BK137 := n0_; have HB := n1_; clear n0_ n1_; (try clear hb); (try clear hb2); (try clear hk); (try clear hi); have hcz31_0 : w30.cell? ⟨gb137, 0, none⟩ = some (.string ((rd_T106 l0 x8_1).f0.f0)) := (blk_cell BK137.out 0).trans rfl; have hcz31_1 : w30.cell? ⟨gb137, 1, none⟩ = some (.string ((rd_T106 l0 x8_1).f0.f1)) := (blk_cell BK137.out 1).trans rfl; have hcz31_2 : w30.cell? ⟨gb137, 2, none⟩ = some (.string ((rd_T106 l0 x8_1).f0.f2)) := (blk_cell BK137.out 2).trans rfl; have hcz31_3 : w30.cell? ⟨gb137, 3, none⟩ = some (.bool ((rd_T106 l0 x8_1).f1)) := (blk_cell BK137.out 3).trans rfl; have hcz31_4 : w30.cell? ⟨gb137, 4, none⟩ = some (.string ((rd_T106 l0 x8_1).f2)) := (blk_cell BK137.out 4).trans rfl; have hcz31_5 : w30.cell? ⟨gb137, 5, none⟩ = some (.string ((rd_T106 l0 x8_1).f3)) := (blk_cell BK137.out 5).trans rfl; have hcz31_6 : w30.cell? ⟨gb137, 6, none⟩ = some (.string ((rd_T106 l0 x8_1).f4)) := (blk_cell BK137.out 6).trans rfl; have hcz31_7 : w30.cell? ⟨gb137, 7, none⟩ = some (.string ((rd_T106 l0 x8_1).f5)) := (blk_cell BK137.out 7).trans rfl; have hcz31_8 : w30.cell? ⟨gb137, 8, none⟩ = some (.bool ((rd_T106 l0 x8_1).f6)) := (blk_cell BK137.out 8).trans rfl; have hfz31_0 := blk_frozen BK137.out 0; have hfz31_1 := blk_frozen BK137.out 1; have hfz31_2 := blk_frozen BK137.out 2; have hfz31_3 := blk_frozen BK137.out 3; have hfz31_4 := blk_frozen BK137.out 4; have hfz31_5 := blk_frozen BK137.out 5; have hfz31_6 := blk_frozen BK137.out 6; have hfz31_7 := blk_frozen BK137.out 7; have hfz31_8 := blk_frozen BK137.out 8))
                            go_ret
                            exact ⟨by first | rfl | (simp [errW_none, errW_some] <;> rfl) | (simp [*, errW_none, errW_some] <;> rfl), by repeat (first | (with_reducible first | exact HB.out | apply below_alloc | apply pw_below_drewN | apply below_drew1 | refine below_set ?_ GE137.out) | exact HB.out)⟩
                          · rw [if_neg c28] at H
                            have c28b0 : (((rd_T106 l0 x8_1).f2).toList == ([] : List UInt8)) = false := beq_eq_false_iff_ne.mpr c28
                            have c28b1 : (((rd_T106 l0 x8_1).f2).toList != ([] : List UInt8)) = true := bne_iff_ne.mpr c28
                            by_cases c32 : x8_1 < (wrap64 ((l0.length : Int) - 1))
                            · rw [if_pos c32] at H
                              have c32b0 : decide (x8_1 < (wrap64 ((l0.length : Int) - 1))) = true := decide_eq_true c32
                              clear c32
                              replace H := Option.bind_eq_some_iff.mp H
                              obtain ⟨t142, A330, H⟩ := H
                              replace H : (if t142 = true then ((doc_Part_isText.f ((rd_T106 l0 x8_1).f0.f0) ((rd_T106 l0 x8_1).f0.f1) ((rd_T106 l0 x8_1).f0.f2) ((rd_T106 l0 x8_1).f1) ((rd_T106 l0 x8_1).f2) ((rd_T106 l0 x8_1).f3) ((rd_T106 l0 x8_1).f4) ((rd_T106 l0 x8_1).f5) ((rd_T106 l0 x8_1).f6)).bind fun t143 => (doc_Doc_Right.l0 kj16 l0 t143 l0 (l0.length : Int) (wrap64 (x8_1 + 1)))) else (some false)) = some r := H
                              have A33 := Aside0.mk A330
                              clear A330
                              by_cases c34 : t142 = true
                              · subst c34
                                have H1 : ((doc_Part_isText.f ((rd_T106 l0 x8_1).f0.f0) ((rd_T106 l0 x8_1).f0.f1) ((rd_T106 l0 x8_1).f0.f2) ((rd_T106 l0 x8_1).f1) ((rd_T106 l0 x8_1).f2) ((rd_T106 l0 x8_1).f3) ((rd_T106 l0 x8_1).f4) ((rd_T106 l0 x8_1).f5) ((rd_T106 l0 x8_1).f6)).bind fun t143 => (doc_Doc_Right.l0 kj16 l0 t143 l0 (l0.length : Int) (wrap64 (x8_1 + 1)))) = some r := by rw [if_pos rfl] at H; exact H
                                clear H
                                have H := H1
                                clear H1
                                replace H := Option.bind_eq_some_iff.mp H
                                obtain ⟨t143, A350, H⟩ := H
                                replace H : (doc_Doc_Right.l0 kj16 l0 t143 l0 (l0.length : Int) (wrap64 (x8_1 + 1))) = some r := H
                                have A35 := Aside0.mk A350
                                clear A350
                                have H' := Aside0.mk H
                                clear H
                                have hcz36_0 : wc.cell? ⟨gb137, 0, none⟩ = some (.string ((rd_T106 l0 x8_1).f0.f0)) := (blk_cell BK137.out 0).trans rfl
                                have hcz36_1 : wc.cell? ⟨gb137, 1, none⟩ = some (.string ((rd_T106 l0 x8_1).f0.f1)) := (blk_cell BK137.out 1).trans rfl
                                have hcz36_2 : wc.cell? ⟨gb137, 2, none⟩ = some (.string ((rd_T106 l0 x8_1).f0.f2)) := (blk_cell BK137.out 2).trans rfl
                                have hcz36_3 : wc.cell? ⟨gb137, 3, none⟩ = some (.bool ((rd_T106 l0 x8_1).f1)) := (blk_cell BK137.out 3).trans rfl
                                have hcz36_4 : wc.cell? ⟨gb137, 4, none⟩ = some (.string ((rd_T106 l0 x8_1).f2)) := (blk_cell BK137.out 4).trans rfl
                                have hcz36_5 : wc.cell? ⟨gb137, 5, none⟩ = some (.string ((rd_T106 l0 x8_1).f3)) := (blk_cell BK137.out 5).trans rfl
                                have hcz36_6 : wc.cell? ⟨gb137, 6, none⟩ = some (.string ((rd_T106 l0 x8_1).f4)) := (blk_cell BK137.out 6).trans rfl
                                have hcz36_7 : wc.cell? ⟨gb137, 7, none⟩ = some (.string ((rd_T106 l0 x8_1).f5)) := (blk_cell BK137.out 7).trans rfl
                                have hcz36_8 : wc.cell? ⟨gb137, 8, none⟩ = some (.bool ((rd_T106 l0 x8_1).f6)) := (blk_cell BK137.out 8).trans rfl
                                have hfz36_0 := blk_frozen BK137.out 0
                                have hfz36_1 := blk_frozen BK137.out 1
                                have hfz36_2 := blk_frozen BK137.out 2
                                have hfz36_3 := blk_frozen BK137.out 3
                                have hfz36_4 := blk_frozen BK137.out 4
                                have hfz36_5 := blk_frozen BK137.out 5
                                have hfz36_6 := blk_frozen BK137.out 6
                                have hfz36_7 := blk_frozen BK137.out 7
                                have hfz36_8 := blk_frozen BK137.out 8
                                go_wp2_with (first | ((with_reducible refine gate_callee (f := 75) rfl ?_); refine goesL_ (some 28) rfl rfl Try.func75 (by kernel_rfl) rfl #[.agg #[.string ((rd_T106 l0 x8_1).f0.f0), .string ((rd_T106 l0 x8_1).f0.f1), .string ((rd_T106 l0 x8_1).f0.f2), .bool ((rd_T106 l0 x8_1).f1), .string ((rd_T106 l0 x8_1).f2), .string ((rd_T106 l0 x8_1).f3), .string ((rd_T106 l0 x8_1).f4), .string ((rd_T106 l0 x8_1).f5), .bool ((rd_T106 l0 x8_1).f6)]] rfl (by (try simp only [List.map_toArray, List.map_cons, List.map_nil]); first | done | rfl | (simp only [List.length_drop, List.length_take]; rfl)) ?_; (with_reducible refine (doc_Part_isText.calls ((rd_T106 l0 x8_1).f0.f0) ((rd_T106 l0 x8_1).f0.f1) ((rd_T106 l0 x8_1).f0.f2) ((rd_T106 l0 x8_1).f1) ((rd_T106 l0 x8_1).f2) ((rd_T106 l0 x8_1).f3) ((rd_T106 l0 x8_1).f4) ((rd_T106 l0 x8_1).f5) ((rd_T106 l0 x8_1).f6) true _ A23.out).mono ?_); rintro e w37 ⟨rfl, hb⟩; refine ⟨_, rfl, ?_⟩; have n0_ := Aside0.mk (blk_below (g := gb137) (o := .cells #[.string ((rd_T106 l0 x8_1).f0.f0), .string ((rd_T106 l0 x8_1).f0.f1), .string ((rd_T106 l0 x8_1).f0.f2), .bool ((rd_T106 l0 x8_1).f1), .string ((rd_T106 l0 x8_1).f2), .string ((rd_T106 l0 x8_1).f3), .string ((rd_T106 l0 x8_1).f4), .string ((rd_T106 l0 x8_1).f5), .bool ((rd_T106 l0 x8_1).f6)] 106 (0, 0)) (by (with_reducible repeat (first | refine blk_drewN ?_ _ | refine blk_drew ?_ | refine blk_alloc ?_ _)); exact BK137.out) hb); have n1_ := Aside0.mk (below_step (by repeat (first | (with_reducible first | exact HB.out | apply below_alloc | apply pw_below_drewN | apply below_drew1 | refine below_set ?_ GE137.out) | exact HB.out)) hb); clear BK137; clear HB; have BK137 := n0_; have HB := n1_; clear n0_ n1_; (try clear hb); (try clear hb2); (try clear hk); (try clear hi); have hcz38_0 : w37.cell? ⟨gb137, 0, none⟩ = some (.string ((rd_T106 l0 x8_1).f0.f0)) := (blk_cell BK137.out 0).trans rfl; have hcz38_1 : w37.cell? ⟨gb137, 1, none⟩ = some (.string ((rd_T106 l0 x8_1).f0.f1)) := (blk_cell BK137.out 1).trans rfl; have hcz38_2 : w37.cell? ⟨gb137, 2, none⟩ = some (.string ((rd_T106 l0 x8_1).f0.f2)) := (blk_cell BK137.out 2).trans rfl; have hcz38_3 : w37.cell? ⟨gb137, 3, none⟩ = some (.bool ((rd_T106 l0 x8_1).f1)) := (blk_cell BK137.out 3).trans rfl; have hcz38_4 : w37.cell? ⟨gb137, 4, none⟩ = some (.string ((rd_T106 l0 x8_1).f2)) := (blk_cell BK137.out 4).trans rfl; have hcz38_5 : w37.cell? ⟨gb137, 5, none⟩ = some (.string ((rd_T106 l0 x8_1).f3)) := (blk_cell BK137.out 5).trans rfl; have hcz38_6 : w37.cell? ⟨gb137, 6, none⟩ = some (.string ((rd_T106 l0 x8_1).f4)) := (blk_cell BK137.out 6).trans rfl; have hcz38_7 : w37.cell? ⟨gb137, 7, none⟩ = some (.string ((rd_T106 l0 x8_1).f5)) := (blk_cell BK137.out 7).trans rfl; have hcz38_8 : w37.cell? ⟨gb137, 8, none⟩ = some (.bool ((rd_T106 l0 x8_1).f6)) := (blk_cell BK137.out 8).trans rfl; have hfz38_0 := blk_frozen BK137.out 0; have hfz38_1 := blk_frozen BK137.out 1; have hfz38_2 := blk_frozen BK137.out 2; have hfz38_3 := blk_frozen BK137.out 3; have hfz38_4 := blk_frozen BK137.out 4; have hfz38_5 := blk_frozen BK137.out 5; have hfz38_6 := blk_frozen BK137.out 6; have hfz38_7 := blk_frozen BK137.out 7; have hfz38_8 := blk_frozen BK137.out 8) | (go_at_call 115; (with_reducible refine (strings_HasSuffix.calls ((rd_T106 l0 x8_1).f2) (⟨#[10]⟩ : ByteArray) true _ A33.out).mono ?_); rintro e w' ⟨rfl, ⟨nd, rfl⟩⟩) | ((with_reducible refine gate_callee (f := 75) rfl ?_); refine goesL_ (some 51) rfl rfl Try.func75 (by kernel_rfl) rfl #[.agg #[.string ((rd_T106 l0 x8_1).f0.f0), .string ((rd_T106 l0 x8_1).f0.f1), .string ((rd_T106 l0 x8_1).f0.f2), .bool ((rd_T106 l0 x8_1).f1), .string ((rd_T106 l0 x8_1).f2), .string ((rd_T106 l0 x8_1).f3), .string ((rd_T106 l0 x8_1).f4), .string ((rd_T106 l0 x8_1).f5), .bool ((rd_T106 l0 x8_1).f6)]] rfl (by (try simp only [List.map_toArray, List.map_cons, List.map_nil]); first | done | rfl | (simp only [List.length_drop, List.length_take]; rfl)) ?_; (with_reducible refine (doc_Part_isText.calls ((rd_T106 l0 x8_1).f0.f0) ((rd_T106 l0 x8_1).f0.f1) ((rd_T106 l0 x8_1).f0.f2) ((rd_T106 l0 x8_1).f1) ((rd_T106 l0 x8_1).f2) ((rd_T106 l0 x8_1).f3) ((rd_T106 l0 x8_1).f4) ((rd_T106 l0 x8_1).f5) ((rd_T106 l0 x8_1).f6) t143 _ A35.out).mono ?_); rintro e w39 ⟨rfl, hb⟩; refine ⟨_, rfl, ?_⟩; have n0_ := Aside0.mk (blk_below (g := gb137) (o := .cells #[.string ((rd_T106 l0 x8_1).f0.f0), .string ((rd_T106 l0 x8_1).f0.f1), .string ((rd_T106 l0 x8_1).f0.f2), .bool ((rd_T106 l0 x8_1).f1), .string ((rd_T106 l0 x8_1).f2), .string ((rd_T106 l0 x8_1).f3), .string ((rd_T106 l0 x8_1).f4), .string ((rd_T106 l0 x8_1).f5), .bool ((rd_T106 l0 x8_1).f6)] 106 (0, 0)) (by (with_reducible repeat (first | refine blk_drewN ?_ _ | refine blk_drew ?_ | refine blk_alloc ?_ _)); exact BK137.out) hb); have n1_ := Aside0.mk (below_step (by repeat (first | (with_reducible first | exact HB.out | apply below_alloc | apply pw_below_drewN | apply below_drew1 | refine below_set ?_ GE137.out) | exact HB.out)) hb); clear BK137; clear HB; have BK137 := n0_; have HB := n1_; clear n0_ n1_; (try clear hb); (try clear hb2); (try clear hk); (try clear hi)))
                                go_roundg kj16
                                case measure => have := HK1.out; have := HJ4.out; have := HJ16.out; omega
                                case rel => exact ⟨(t143), (wrap64 (x8_1 + 1)), (by first | rfl | (simp; done) | (simp [*]; done)), (by first | rfl | (simp; done) | (simp [*]; done)), H', ⟨by have := HK1.out; have := HJ4.out; have := HJ16.out; omega⟩, ⟨by repeat (first | (with_reducible first | exact HB.out | apply below_alloc | apply pw_below_drewN | apply below_drew1 | refine below_set ?_ GE137.out) | exact HB.out)⟩⟩
                              · replace c34 := Bool.eq_false_iff.mpr c34
                                subst c34
                                have H1 : (some false) = some r := by rw [if_neg (show ¬ (false = true) by decide)] at H; exact H
                                clear H
                                have H := H1
                                clear H1
                                obtain rfl := Option.some.inj H
                                have hcz40_0 : wc.cell? ⟨gb137, 0, none⟩ = some (.string ((rd_T106 l0 x8_1).f0.f0)) := (blk_cell BK137.out 0).trans rfl
                                have hcz40_1 : wc.cell? ⟨gb137, 1, none⟩ = some (.string ((rd_T106 l0 x8_1).f0.f1)) := (blk_cell BK137.out 1).trans rfl
                                have hcz40_2 : wc.cell? ⟨gb137, 2, none⟩ = some (.string ((rd_T106 l0 x8_1).f0.f2)) := (blk_cell BK137.out 2).trans rfl
                                have hcz40_3 : wc.cell? ⟨gb137, 3, none⟩ = some (.bool ((rd_T106 l0 x8_1).f1)) := (blk_cell BK137.out 3).trans rfl
                                have hcz40_4 : wc.cell? ⟨gb137, 4, none⟩ = some (.string ((rd_T106 l0 x8_1).f2)) := (blk_cell BK137.out 4).trans rfl
                                have hcz40_5 : wc.cell? ⟨gb137, 5, none⟩ = some (.string ((rd_T106 l0 x8_1).f3)) := (blk_cell BK137.out 5).trans rfl
                                have hcz40_6 : wc.cell? ⟨gb137, 6, none⟩ = some (.string ((rd_T106 l0 x8_1).f4)) := (blk_cell BK137.out 6).trans rfl
                                have hcz40_7 : wc.cell? ⟨gb137, 7, none⟩ = some (.string ((rd_T106 l0 x8_1).f5)) := (blk_cell BK137.out 7).trans rfl
                                have hcz40_8 : wc.cell? ⟨gb137, 8, none⟩ = some (.bool ((rd_T106 l0 x8_1).f6)) := (blk_cell BK137.out 8).trans rfl
                                have hfz40_0 := blk_frozen BK137.out 0
                                have hfz40_1 := blk_frozen BK137.out 1
                                have hfz40_2 := blk_frozen BK137.out 2
                                have hfz40_3 := blk_frozen BK137.out 3
                                have hfz40_4 := blk_frozen BK137.out 4
                                have hfz40_5 := blk_frozen BK137.out 5
                                have hfz40_6 := blk_frozen BK137.out 6
                                have hfz40_7 := blk_frozen BK137.out 7
                                have hfz40_8 := blk_frozen BK137.out 8
                                go_wp2_with (first | ((with_reducible refine gate_callee (f := 75) rfl ?_); refine goesL_ (some 28) rfl rfl Try.func75 (by kernel_rfl) rfl #[.agg #[.string ((rd_T106 l0 x8_1).f0.f0), .string ((rd_T106 l0 x8_1).f0.f1), .string ((rd_T106 l0 x8_1).f0.f2), .bool ((rd_T106 l0 x8_1).f1), .string ((rd_T106 l0 x8_1).f2), .string ((rd_T106 l0 x8_1).f3), .string ((rd_T106 l0 x8_1).f4), .string ((rd_T106 l0 x8_1).f5), .bool ((rd_T106 l0 x8_1).f6)]] rfl (by (try simp only [List.map_toArray, List.map_cons, List.map_nil]); first | done | rfl | (simp only [List.length_drop, List.length_take]; rfl)) ?_; (with_reducible refine (doc_Part_isText.calls ((rd_T106 l0 x8_1).f0.f0) ((rd_T106 l0 x8_1).f0.f1) ((rd_T106 l0 x8_1).f0.f2) ((rd_T106 l0 x8_1).f1) ((rd_T106 l0 x8_1).f2) ((rd_T106 l0 x8_1).f3) ((rd_T106 l0 x8_1).f4) ((rd_T106 l0 x8_1).f5) ((rd_T106 l0 x8_1).f6) true _ A23.out).mono ?_); rintro e w41 ⟨rfl, hb⟩; refine ⟨_, rfl, ?_⟩; have n0_ := Aside0.mk (blk_below (g := gb137) (o := .cells #[.string ((rd_T106 l0 x8_1).f0.f0), .string ((rd_T106 l0 x8_1).f0.f1), .string ((rd_T106 l0 x8_1).f0.f2), .bool ((rd_T106 l0 x8_1).f1), .string ((rd_T106 l0 x8_1).f2), .string ((rd_T106 l0 x8_1).f3), .string ((rd_T106 l0 x8_1).f4), .string ((rd_T106 l0 x8_1).f5), .bool ((rd_T106 l0 x8_1).f6)] 106 (0, 0)) (by (with_reducible repeat (first | refine blk_drewN ?_ _ | refine blk_drew ?_ | refine blk_alloc ?_ _)); exact BK137.out) hb); have n1_ := Aside0.mk (below_step (by repeat (first | (with_reducible first | exact HB.out | apply below_alloc | apply pw_below_drewN | apply below_drew1 | refine below_set ?_ GE137.out) | exact HB.out)) hb); clear BK137; clear HB; have BK137 := n0_; have HB := n1_; clear n0_ n1_; (try clear hb); (try clear hb2); (try clear hk); (try clear hi); have hcz42_0 : w41.cell? ⟨gb137, 0, none⟩ = some (.string ((rd_T106 l0 x8_1).f0.f0)) := (blk_cell BK137.out 0).trans rfl; have hcz42_1 : w41.cell? ⟨gb137, 1, none⟩ = some (.string ((rd_T106 l0 x8_1).f0.f1)) := (blk_cell BK137.out 1).trans rfl; have hcz42_2 : w41.cell? ⟨gb137, 2, none⟩ = some (.string ((rd_T106 l0 x8_1).f0.f2)) := (blk_cell BK137.out 2).trans rfl; have hcz42_3 : w41.cell? ⟨gb137, 3, none⟩ = some (.bool ((rd_T106 l0 x8_1).f1)) := (blk_cell BK137.out 3).trans rfl; have hcz42_4 : w41.cell? ⟨gb137, 4, none⟩ = some (.string ((rd_T106 l0 x8_1).f2)) := (blk_cell BK137.out 4).trans rfl; have hcz42_5 : w41.cell? ⟨gb137, 5, none⟩ = some (.string ((rd_T106 l0 x8_1).f3)) := (blk_cell BK137.out 5).trans rfl; have hcz42_6 : w41.cell? ⟨gb137, 6, none⟩ = some (.string ((rd_T106 l0 x8_1).f4)) := (blk_cell BK137.out 6).trans rfl; have hcz42_7 : w41.cell? ⟨gb137, 7, none⟩ = some (.string ((rd_T106 l0 x8_1).f5)) := (blk_cell BK137.out 7).trans rfl; have hcz42_8 : w41.cell? ⟨gb137, 8, none⟩ = some (.bool ((rd_T106 l0 x8_1).f6)) := (blk_cell BK137.out 8).trans rfl; have hfz42_0 := blk_frozen BK137.out 0; have hfz42_1 := blk_frozen BK137.out 1; have hfz42_2 := blk_frozen BK137.out 2; have hfz42_3 := blk_frozen BK137.out 3; have hfz42_4 := blk_frozen BK137.out 4; have hfz42_5 := blk_frozen BK137.out 5; have hfz42_6 := blk_frozen BK137.out 6; have hfz42_7 := blk_frozen BK137.out 7; have hfz42_8 := blk_frozen BK137.out 8) | (go_at_call 115; (with_reducible refine (strings_HasSuffix.calls ((rd_T106 l0 x8_1).f2) (⟨#[10]⟩ : ByteArray) false _ A33.out).mono ?_); rintro e w' ⟨rfl, ⟨nd, rfl⟩⟩))
                                go_ret
                                exact ⟨by first | rfl | (simp [errW_none, errW_some] <;> rfl) | (simp [*, errW_none, errW_some] <;> rfl), by repeat (first | (with_reducible first | exact HB.out | apply below_alloc | apply pw_below_drewN | apply below_drew1 | refine below_set ?_ GE137.out) | exact HB.out)⟩
                            · rw [if_neg c32] at H
                              have c32b0 : decide (x8_1 < (wrap64 ((l0.length : Int) - 1))) = false := decide_eq_false c32
                              clear c32
                              replace H := Option.bind_eq_some_iff.mp H
                              obtain ⟨t144, A430, H⟩ := H
                              replace H : (doc_Doc_Right.l0 kj16 l0 t144 l0 (l0.length : Int) (wrap64 (x8_1 + 1))) = some r := H
                              have A43 := Aside0.mk A430
                              clear A430
                              have H' := Aside0.mk H
                              clear H
                              have hcz44_0 : wc.cell? ⟨gb137, 0, none⟩ = some (.string ((rd_T106 l0 x8_1).f0.f0)) := (blk_cell BK137.out 0).trans rfl
                              have hcz44_1 : wc.cell? ⟨gb137, 1, none⟩ = some (.string ((rd_T106 l0 x8_1).f0.f1)) := (blk_cell BK137.out 1).trans rfl
                              have hcz44_2 : wc.cell? ⟨gb137, 2, none⟩ = some (.string ((rd_T106 l0 x8_1).f0.f2)) := (blk_cell BK137.out 2).trans rfl
                              have hcz44_3 : wc.cell? ⟨gb137, 3, none⟩ = some (.bool ((rd_T106 l0 x8_1).f1)) := (blk_cell BK137.out 3).trans rfl
                              have hcz44_4 : wc.cell? ⟨gb137, 4, none⟩ = some (.string ((rd_T106 l0 x8_1).f2)) := (blk_cell BK137.out 4).trans rfl
                              have hcz44_5 : wc.cell? ⟨gb137, 5, none⟩ = some (.string ((rd_T106 l0 x8_1).f3)) := (blk_cell BK137.out 5).trans rfl
                              have hcz44_6 : wc.cell? ⟨gb137, 6, none⟩ = some (.string ((rd_T106 l0 x8_1).f4)) := (blk_cell BK137.out 6).trans rfl
                              have hcz44_7 : wc.cell? ⟨gb137, 7, none⟩ = some (.string ((rd_T106 l0 x8_1).f5)) := (blk_cell BK137.out 7).trans rfl
                              have hcz44_8 : wc.cell? ⟨gb137, 8, none⟩ = some (.bool ((rd_T106 l0 x8_1).f6)) := (blk_cell BK137.out 8).trans rfl
                              have hfz44_0 := blk_frozen BK137.out 0
                              have hfz44_1 := blk_frozen BK137.out 1
                              have hfz44_2 := blk_frozen BK137.out 2
                              have hfz44_3 := blk_frozen BK137.out 3
                              have hfz44_4 := blk_frozen BK137.out 4
                              have hfz44_5 := blk_frozen BK137.out 5
                              have hfz44_6 := blk_frozen BK137.out 6
                              have hfz44_7 := blk_frozen BK137.out 7
                              have hfz44_8 := blk_frozen BK137.out 8
                              go_wp2_with (first | ((with_reducible refine gate_callee (f := 75) rfl ?_); refine goesL_ (some 28) rfl rfl Try.func75 (by kernel_rfl) rfl #[.agg #[.string ((rd_T106 l0 x8_1).f0.f0), .string ((rd_T106 l0 x8_1).f0.f1), .string ((rd_T106 l0 x8_1).f0.f2), .bool ((rd_T106 l0 x8_1).f1), .string ((rd_T106 l0 x8_1).f2), .string ((rd_T106 l0 x8_1).f3), .string ((rd_T106 l0 x8_1).f4), .string ((rd_T106 l0 x8_1).f5), .bool ((rd_T106 l0 x8_1).f6)]] rfl (by (try simp only [List.map_toArray, List.map_cons, List.map_nil]); first | done | rfl | (simp only [List.length_drop, List.length_take]; rfl)) ?_; (with_reducible refine (doc_Part_isText.calls ((rd_T106 l0 x8_1).f0.f0) ((rd_T106 l0 x8_1).f0.f1) ((rd_T106 l0 x8_1).f0.f2) ((rd_T106 l0 x8_1).f1) ((rd_T106 l0 x8_1).f2) ((rd_T106 l0 x8_1).f3) ((rd_T106 l0 x8_1).f4) ((rd_T106 l0 x8_1).f5) ((rd_T106 l0 x8_1).f6) true _ A23.out).mono ?_); rintro e w45 ⟨rfl, hb⟩; refine ⟨_, rfl, ?_⟩; have n0_ := Aside0.mk (blk_below (g := gb137) (o := .cells #[.string ((rd_T106 l0 x8_1).f0.f0), .string ((rd_T106 l0 x8_1).f0.f1), .string ((rd_T106 l0 x8_1).f0.f2), .bool ((rd_T106 l0 x8_1).f1), .string ((rd_T106 l0 x8_1).f2), .string ((rd_T106 l0 x8_1).f3), .string ((rd_T106 l0 x8_1).f4), .string ((rd_T106 l0 x8_1).f5), .bool ((rd_T106 l0 x8_1).f6)] 106 (0, 0)) (by (with_reducible repeat (first | refine blk_drewN ?_ _ | refine blk_drew ?_ | refine blk_alloc ?_ _)); exact BK137.out) hb); have n1_ := Aside0.mk (below_step (by repeat (first | (with_reducible first | exact HB.out | apply below_alloc | apply pw_below_drewN | apply below_drew1 | refine below_set ?_ GE137.out) | exact HB.out)) hb); clear BK137; clear HB; have BK137 := n0_; have HB := n1_; clear n0_ n1_; (try clear hb); (try clear hb2); (try clear hk); (try clear hi); have hcz46_0 : w45.cell? ⟨gb137, 0, none⟩ = some (.string ((rd_T106 l0 x8_1).f0.f0)) := (blk_cell BK137.out 0).trans rfl; have hcz46_1 : w45.cell? ⟨gb137, 1, none⟩ = some (.string ((rd_T106 l0 x8_1).f0.f1)) := (blk_cell BK137.out 1).trans rfl; have hcz46_2 : w45.cell? ⟨gb137, 2, none⟩ = some (.string ((rd_T106 l0 x8_1).f0.f2)) := (blk_cell BK137.out 2).trans rfl; have hcz46_3 : w45.cell? ⟨gb137, 3, none⟩ = some (.bool ((rd_T106 l0 x8_1).f1)) := (blk_cell BK137.out 3).trans rfl; have hcz46_4 : w45.cell? ⟨gb137, 4, none⟩ = some (.string ((rd_T106 l0 x8_1).f2)) := (blk_cell BK137.out 4).trans rfl; have hcz46_5 : w45.cell? ⟨gb137, 5, none⟩ = some (.string ((rd_T106 l0 x8_1).f3)) := (blk_cell BK137.out 5).trans rfl; have hcz46_6 : w45.cell? ⟨gb137, 6, none⟩ = some (.string ((rd_T106 l0 x8_1).f4)) := (blk_cell BK137.out 6).trans rfl; have hcz46_7 : w45.cell? ⟨gb137, 7, none⟩ = some (.string ((rd_T106 l0 x8_1).f5)) := (blk_cell BK137.out 7).trans rfl; have hcz46_8 : w45.cell? ⟨gb137, 8, none⟩ = some (.bool ((rd_T106 l0 x8_1).f6)) := (blk_cell BK137.out 8).trans rfl; have hfz46_0 := blk_frozen BK137.out 0; have hfz46_1 := blk_frozen BK137.out 1; have hfz46_2 := blk_frozen BK137.out 2; have hfz46_3 := blk_frozen BK137.out 3; have hfz46_4 := blk_frozen BK137.out 4; have hfz46_5 := blk_frozen BK137.out 5; have hfz46_6 := blk_frozen BK137.out 6; have hfz46_7 := blk_frozen BK137.out 7; have hfz46_8 := blk_frozen BK137.out 8) | ((with_reducible refine gate_callee (f := 75) rfl ?_); refine goesL_ (some 51) rfl rfl Try.func75 (by kernel_rfl) rfl #[.agg #[.string ((rd_T106 l0 x8_1).f0.f0), .string ((rd_T106 l0 x8_1).f0.f1), .string ((rd_T106 l0 x8_1).f0.f2), .bool ((rd_T106 l0 x8_1).f1), .string ((rd_T106 l0 x8_1).f2), .string ((rd_T106 l0 x8_1).f3), .string ((rd_T106 l0 x8_1).f4), .string ((rd_T106 l0 x8_1).f5), .bool ((rd_T106 l0 x8_1).f6)]] rfl (by (try simp only [List.map_toArray, List.map_cons, List.map_nil]); first | done | rfl | (simp only [List.length_drop, List.length_take]; rfl)) ?_; (with_reducible refine (doc_Part_isText.calls ((rd_T106 l0 x8_1).f0.f0) ((rd_T106 l0 x8_1).f0.f1) ((rd_T106 l0 x8_1).f0.f2) ((rd_T106 l0 x8_1).f1) ((rd_T106 l0 x8_1).f2) ((rd_T106 l0 x8_1).f3) ((rd_T106 l0 x8_1).f4) ((rd_T106 l0 x8_1).f5) ((rd_T106 l0 x8_1).f6) t144 _ A43.out).mono ?_); rintro e w47 ⟨rfl, hb⟩; refine ⟨_, rfl, ?_⟩; have n0_ := Aside0.mk (blk_below (g := gb137) (o := .cells #[.string ((rd_T106 l0 x8_1).f0.f0), .string ((rd_T106 l0 x8_1).f0.f1), .string ((rd_T106 l0 x8_1).f0.f2), .bool ((rd_T106 l0 x8_1).f1), .string ((rd_T106 l0 x8_1).f2), .string ((rd_T106 l0 x8_1).f3), .string ((rd_T106 l0 x8_1).f4), .string ((rd_T106 l0 x8_1).f5), .bool ((rd_T106 l0 x8_1).f6)] 106 (0, 0)) (by (with_reducible repeat (first | refine blk_drewN ?_ _ | refine blk_drew ?_ | refine blk_alloc ?_ _)); exact BK137.out) hb); have n1_ := Aside0.mk (below_step (by repeat (first | (with_reducible first | exact HB.out | apply below_alloc | apply pw_below_drewN | apply below_drew1 | refine below_set ?_ GE137.out) | exact HB.out)) hb); clear BK137; clear HB; have BK137 := n0_; have HB := n1_; clear n0_ n1_; (try clear hb); (try clear hb2); (try clear hk); (try clear hi)))
                              go_roundg kj16
                              case measure => have := HK1.out; have := HJ4.out; have := HJ16.out; omega
                              case rel => exact ⟨(t144), (wrap64 (x8_1 + 1)), (by first | rfl | (simp; done) | (simp [*]; done)), (by first | rfl | (simp; done) | (simp [*]; done)), H', ⟨by have := HK1.out; have := HJ4.out; have := HJ16.out; omega⟩, ⟨by repeat (first | (with_reducible first | exact HB.out | apply below_alloc | apply pw_below_drewN | apply below_drew1 | refine below_set ?_ GE137.out) | exact HB.out)⟩⟩
                      · replace c24 := Bool.eq_false_iff.mpr c24
                        subst c24
                        have H1 : ((doc_Part_isText.f ((rd_T106 l0 x8_1).f0.f0) ((rd_T106 l0 x8_1).f0.f1) ((rd_T106 l0 x8_1).f0.f2) ((rd_T106 l0 x8_1).f1) ((rd_T106 l0 x8_1).f2) ((rd_T106 l0 x8_1).f3) ((rd_T106 l0 x8_1).f4) ((rd_T106 l0 x8_1).f5) ((rd_T106 l0 x8_1).f6)).bind fun t145 => (doc_Doc_Right.l0 kj16 l0 t145 l0 (l0.length : Int) (wrap64 (x8_1 + 1)))) = some r := by rw [if_neg (show ¬ (false = true) by decide)] at H; exact H
                        clear H
                        have H := H1
                        clear H1
                        replace H := Option.bind_eq_some_iff.mp H
                        obtain ⟨t145, A480, H⟩ := H
                        replace H : (doc_Doc_Right.l0 kj16 l0 t145 l0 (l0.length : Int) (wrap64 (x8_1 + 1))) = some r := H
                        have A48 := Aside0.mk A480
                        clear A480
                        have H' := Aside0.mk H
                        clear H
                        have hcz49_0 : wc.cell? ⟨gb137, 0, none⟩ = some (.string ((rd_T106 l0 x8_1).f0.f0)) := (blk_cell BK137.out 0).trans rfl
                        have hcz49_1 : wc.cell? ⟨gb137, 1, none⟩ = some (.string ((rd_T106 l0 x8_1).f0.f1)) := (blk_cell BK137.out 1).trans rfl
                        have hcz49_2 : wc.cell? ⟨gb137, 2, none⟩ = some (.string ((rd_T106 l0 x8_1).f0.f2)) := (blk_cell BK137.out 2).trans rfl
                        have hcz49_3 : wc.cell? ⟨gb137, 3, none⟩ = some (.bool ((rd_T106 l0 x8_1).f1)) := (blk_cell BK137.out 3).trans rfl
                        have hcz49_4 : wc.cell? ⟨gb137, 4, none⟩ = some (.string ((rd_T106 l0 x8_1).f2)) := (blk_cell BK137.out 4).trans rfl
                        have hcz49_5 : wc.cell? ⟨gb137, 5, none⟩ = some (.string ((rd_T106 l0 x8_1).f3)) := (blk_cell BK137.out 5).trans rfl
                        have hcz49_6 : wc.cell? ⟨gb137, 6, none⟩ = some (.string ((rd_T106 l0 x8_1).f4)) := (blk_cell BK137.out 6).trans rfl
                        have hcz49_7 : wc.cell? ⟨gb137, 7, none⟩ = some (.string ((rd_T106 l0 x8_1).f5)) := (blk_cell BK137.out 7).trans rfl
                        have hcz49_8 : wc.cell? ⟨gb137, 8, none⟩ = some (.bool ((rd_T106 l0 x8_1).f6)) := (blk_cell BK137.out 8).trans rfl
                        have hfz49_0 := blk_frozen BK137.out 0
                        have hfz49_1 := blk_frozen BK137.out 1
                        have hfz49_2 := blk_frozen BK137.out 2
                        have hfz49_3 := blk_frozen BK137.out 3
                        have hfz49_4 := blk_frozen BK137.out 4
                        have hfz49_5 := blk_frozen BK137.out 5
                        have hfz49_6 := blk_frozen BK137.out 6
                        have hfz49_7 := blk_frozen BK137.out 7
                        have hfz49_8 := blk_frozen BK137.out 8
                        go_wp2_with (first | ((with_reducible refine gate_callee (f := 75) rfl ?_); refine goesL_ (some 28) rfl rfl Try.func75 (by kernel_rfl) rfl #[.agg #[.string ((rd_T106 l0 x8_1).f0.f0), .string ((rd_T106 l0 x8_1).f0.f1), .string ((rd_T106 l0 x8_1).f0.f2), .bool ((rd_T106 l0 x8_1).f1), .string ((rd_T106 l0 x8_1).f2), .string ((rd_T106 l0 x8_1).f3), .string ((rd_T106 l0 x8_1).f4), .string ((rd_T106 l0 x8_1).f5), .bool ((rd_T106 l0 x8_1).f6)]] rfl (by (try simp only [List.map_toArray, List.map_cons, List.map_nil]); first | done | rfl | (simp only [List.length_drop, List.length_take]; rfl)) ?_; (with_reducible refine (doc_Part_isText.calls ((rd_T106 l0 x8_1).f0.f0) ((rd_T106 l0 x8_1).f0.f1) ((rd_T106 l0 x8_1).f0.f2) ((rd_T106 l0 x8_1).f1) ((rd_T106 l0 x8_1).f2) ((rd_T106 l0 x8_1).f3) ((rd_T106 l0 x8_1).f4) ((rd_T106 l0 x8_1).f5) ((rd_T106 l0 x8_1).f6) false _ A23.out).mono ?_); rintro e w50 ⟨rfl, hb⟩; refine ⟨_, rfl, ?_⟩; have n0_ := Aside0.mk (blk_below (g := gb137) (o := .cells #[.string ((rd_T106 l0 x8_1).f0.f0), .string ((rd_T106 l0 x8_1).f0.f1), .string ((rd_T106 l0 x8_1).f0.f2), .bool ((rd_T106 l0 x8_1).f1), .string ((rd_T106 l0 x8_1).f2), .string ((rd_T106 l0 x8_1).f3), .string ((rd_T106 l0 x8_1).f4), .string ((rd_T106 l0 x8_1).f5), .bool ((rd_T106 l0 x8_1).f6)] 106 (0, 0)) (by (with_reducible repeat (first | refine blk_drewN ?_ _ | refine blk_drew ?_ | refine blk_alloc ?_ _)); exact BK137.out) hb); have n1_ := Aside0.mk (below_step (by repeat (first | (with_reducible first | exact HB.out | apply below_alloc | apply pw_below_drewN | apply below_drew1 | refine below_set ?_ GE137.out) | exact HB.out)) hb); clear BK137; clear HB; have BK137 := n0_; have HB := n1_; clear n0_ n1_; (try clear hb); (try clear hb2); (try clear hk); (try clear hi); have hcz51_0 : w50.cell? ⟨gb137, 0, none⟩ = some (.string ((rd_T106 l0 x8_1).f0.f0)) := (blk_cell BK137.out 0).trans rfl; have hcz51_1 : w50.cell? ⟨gb137, 1, none⟩ = some (.string ((rd_T106 l0 x8_1).f0.f1)) := (blk_cell BK137.out 1).trans rfl; have hcz51_2 : w50.cell? ⟨gb137, 2, none⟩ = some (.string ((rd_T106 l0 x8_1).f0.f2)) := (blk_cell BK137.out 2).trans rfl; have hcz51_3 : w50.cell? ⟨gb137, 3, none⟩ = some (.bool ((rd_T106 l0 x8_1).f1)) := (blk_cell BK137.out 3).trans rfl; have hcz51_4 : w50.cell? ⟨gb137, 4, none⟩ = some (.string ((rd_T106 l0 x8_1).f2)) := (blk_cell BK137.out 4).trans rfl; have hcz51_5 : w50.cell? ⟨gb137, 5, none⟩ = some (.string ((rd_T106 l0 x8_1).f3)) := (blk_cell BK137.out 5).trans rfl; have hcz51_6 : w50.cell? ⟨gb137, 6, none⟩ = some (.string ((rd_T106 l0 x8_1).f4)) := (blk_cell BK137.out 6).trans rfl; have hcz51_7 : w50.cell? ⟨gb137, 7, none⟩ = some (.string ((rd_T106 l0 x8_1).f5)) := (blk_cell BK137.out 7).trans rfl; have hcz51_8 : w50.cell? ⟨gb137, 8, none⟩ = some (.bool ((rd_T106 l0 x8_1).f6)) := (blk_cell BK137.out 8).trans rfl; have hfz51_0 := blk_frozen BK137.out 0; have hfz51_1 := blk_frozen BK137.out 1; have hfz51_2 := blk_frozen BK137.out 2; have hfz51_3 := blk_frozen BK137.out 3; have hfz51_4 := blk_frozen BK137.out 4; have hfz51_5 := blk_frozen BK137.out 5; have hfz51_6 := blk_frozen BK137.out 6; have hfz51_7 := blk_frozen BK137.out 7; have hfz51_8 := blk_frozen BK137.out 8) | ((with_reducible refine gate_callee (f := 75) rfl ?_); refine goesL_ (some 51) rfl rfl Try.func75 (by kernel_rfl) rfl #[.agg #[.string ((rd_T106 l0 x8_1).f0.f0), .string ((rd_T106 l0 x8_1).f0.f1), .string ((rd_T106 l0 x8_1).f0.f2), .bool ((rd_T106 l0 x8_1).f1), .string ((rd_T106 l0 x8_1).f2), .string ((rd_T106 l0 x8_1).f3), .string ((rd_T106 l0 x8_1).f4), .string ((rd_T106 l0 x8_1).f5), .bool ((rd_T106 l0 x8_1).f6)]] rfl (by (try simp only [List.map_toArray, List.map_cons, List.map_nil]); first | done | rfl | (simp only [List.length_drop, List.length_take]; rfl)) ?_; (with_reducible refine (doc_Part_isText.calls ((rd_T106 l0 x8_1).f0.f0) ((rd_T106 l0 x8_1).f0.f1) ((rd_T106 l0 x8_1).f0.f2) ((rd_T106 l0 x8_1).f1) ((rd_T106 l0 x8_1).f2) ((rd_T106 l0 x8_1).f3) ((rd_T106 l0 x8_1).f4) ((rd_T106 l0 x8_1).f5) ((rd_T106 l0 x8_1).f6) t145 _ A48.out).mono ?_); rintro e w52 ⟨rfl, hb⟩; refine ⟨_, rfl, ?_⟩; have n0_ := Aside0.mk (blk_below (g := gb137) (o := .cells #[.string ((rd_T106 l0 x8_1).f0.f0), .string ((rd_T106 l0 x8_1).f0.f1), .string ((rd_T106 l0 x8_1).f0.f2), .bool ((rd_T106 l0 x8_1).f1), .string ((rd_T106 l0 x8_1).f2), .string ((rd_T106 l0 x8_1).f3), .string ((rd_T106 l0 x8_1).f4), .string ((rd_T106 l0 x8_1).f5), .bool ((rd_T106 l0 x8_1).f6)] 106 (0, 0)) (by (with_reducible repeat (first | refine blk_drewN ?_ _ | refine blk_drew ?_ | refine blk_alloc ?_ _)); exact BK137.out) hb); have n1_ := Aside0.mk (below_step (by repeat (first | (with_reducible first | exact HB.out | apply below_alloc | apply pw_below_drewN | apply below_drew1 | refine below_set ?_ GE137.out) | exact HB.out)) hb); clear BK137; clear HB; have BK137 := n0_; have HB := n1_; clear n0_ n1_; (try clear hb); (try clear hb2); (try clear hk); (try clear hi)))
                        go_roundg kj16
                        case measure => have := HK1.out; have := HJ4.out; have := HJ16.out; omega
                        case rel => exact ⟨(t145), (wrap64 (x8_1 + 1)), (by first | rfl | (simp; done) | (simp [*]; done)), (by first | rfl | (simp; done) | (simp [*]; done)), H', ⟨by have := HK1.out; have := HJ4.out; have := HJ16.out; omega⟩, ⟨by repeat (first | (with_reducible first | exact HB.out | apply below_alloc | apply pw_below_drewN | apply below_drew1 | refine below_set ?_ GE137.out) | exact HB.out)⟩⟩
          · rw [if_neg c4] at H
            exact absurd H (by simp)
        · rw [if_neg c3] at H
          exact absurd H (by simp)
      · rw [if_neg c2] at H
        have c2b0 : decide (x8_1 < (l0.length : Int)) = false := decide_eq_false c2
        clear c2
        obtain rfl := Option.some.inj H
        go_wp2
        go_ret
        exact ⟨by first | rfl | (simp [errW_none, errW_some] <;> rfl) | (simp [*, errW_none, errW_some] <;> rfl), by repeat (first | (with_reducible first | exact HB.out | apply below_alloc | apply pw_below_drewN | apply below_drew1) | exact HB.out)⟩
end Go.Proofs.Ytfiamddinkokbaa.F
end

section
set_option linter.unusedVariables false
set_option linter.unusedSimpArgs false
namespace Go.Proofs.Ytfiamddinkokbaa.F
open Go.RowKit Go.Shelf Go.Proofs.YtfiamddinkokbaaW.PrintWords
set_option linter.unusedVariables false
set_option linter.unusedSimpArgs false
def texts106 (x : S106) : List ByteArray := [x.f2, x.f3, x.f4, x.f5]
def agg106 (x : S106) : Value := .agg #[.string x.f0.f0, .string x.f0.f1, .string x.f0.f2, .bool x.f1, .string x.f2, .string x.f3, .string x.f4, .string x.f5, .bool x.f6]
def widest (k : Nat) (x : S106) : Int := (doc_run.f k (texts106 x)).getD 0
theorem fits_lit (W : World) (n : Nat) (t : TypeId) (a b c d : ByteArray) (h : W.heap[n]? = some (.cells #[.string a, .string b, .string c, .string d] t (0, 0))) : Kd.C Kd.string W (some ⟨n, 0, none⟩) 4 [a, b, c, d] := by
  refine ⟨rfl, by omega, fun _ => ⟨_, rfl, ?_⟩⟩
  intro j p hj
  refine ⟨[.string p], rfl, rfl, ?_⟩
  intro i u hi
  have hi0 : i = 0 := by
    match i, hi with
    | 0, _ => rfl
  subst hi0
  obtain rfl : Value.string p = u := by simpa using hi
  rw [add_plain]
  have hz : (Kd.string).sz = 1 := rfl
  rw [hz, Nat.mul_one, Nat.add_zero]
  have : ∀ i v, (#[Value.string a, .string b, .string c, .string d] : Array Value)[i]? = some v → W.cell? ⟨n, i, none⟩ = some v := by
    intro i v hv
    exact (blk_cell h i).trans hv
  apply this
  match j, hj with
  | 0, hj => simpa using hj
  | 1, hj => simpa using hj
  | 2, hj => simpa using hj
  | 3, hj => simpa using hj
theorem fits_new (W : World) (o : Obj) : (W.alloc o).drew.heap[W.heap.size]? = some o := World.alloc_heap_new W o
theorem fits_run (k n : Nat) (t : TypeId) (a b c d : ByteArray) (r : Int) (W : World) (h : W.heap[n]? = some (.cells #[.string a, .string b, .string c, .string d] t (0, 0))) (hr : doc_run.f k [a, b, c, d] = some r) :
    Calls Try.prog 71 #[.slice (some ⟨n, 0, none⟩) 4 4] W fun e w' => e = .returned (.int .i64 r) ∧ Below W.heap.size W w' :=
  doc_run.calls k (some ⟨n, 0, none⟩) 4 [a, b, c, d] r W (fits_lit W n t a b c d h) (Nat.le_refl 4) hr
theorem fits_keep {w0 W w' : World} {a0 a1 a2 a3 a4 : Addr} {v0 v1 v2 v3 v4 : Value} (hb : Below W.heap.size W w')
    (h : W.cell? a0 = some v0 ∧ W.cell? a1 = some v1 ∧ W.cell? a2 = some v2 ∧ W.cell? a3 = some v3 ∧ W.cell? a4 = some v4 ∧ Below w0.heap.size w0 W) :
    w'.cell? a0 = some v0 ∧ w'.cell? a1 = some v1 ∧ w'.cell? a2 = some v2 ∧ w'.cell? a3 = some v3 ∧ w'.cell? a4 = some v4 ∧ Below w0.heap.size w0 w' := by
  obtain ⟨h0, h1, h2, h3, h4, h5⟩ := h
  exact ⟨(hb.cell (World.block_lt_of_cell? W _ h0)).trans h0, (hb.cell (World.block_lt_of_cell? W _ h1)).trans h1, (hb.cell (World.block_lt_of_cell? W _ h2)).trans h2, (hb.cell (World.block_lt_of_cell? W _ h3)).trans h3,
    (hb.cell (World.block_lt_of_cell? W _ h4)).trans h4, below_step h5 hb⟩
set_option maxHeartbeats 4000000 in
set_option maxRecDepth 100000 in
theorem fits_pred (k B : Nat) (lim : Int) (w W : World) (x : S106) (r : Int) (hB : B < w.heap.size) (hc : w.cell? ⟨B, 0, none⟩ = some (.int .i64 lim)) (hb : Below w.heap.size w W)
    (hr : doc_run.f k (texts106 x) = some r) :
    Calls Try.prog 117 (#[agg106 x] ++ #[.pointer (some ⟨B, 0, none⟩)]) W fun e w' => e = .returned (.bool (decide (lim ≤ r))) ∧ Below w.heap.size w w' := by
  have hW : W.cell? ⟨B, 0, none⟩ = some (.int .i64 lim) := (hb.cell (p := ⟨B, 0, none⟩) hB).trans hc
  have hBW : B < W.heap.size := World.block_lt_of_cell? W _ hW
  show Calls Try.prog 117 #[agg106 x, .pointer (some ⟨B, 0, none⟩)] W _
  unfold agg106
  obtain ⟨H0, hH⟩ : ∃ H0, W.heap.size = H0 := ⟨_, rfl⟩
  clear hc hB
  obtain ⟨⟨l1, l2, l3⟩, b1, s2, s3, s4, s5, b6⟩ := x
  have HX : Aside0 (doc_run.f k [s2, s3, s4, s5] = some r) := ⟨hr⟩
  clear hr
  dsimp only
  go_enter Try.func117, Try.ntmps117
  go_wp2_with fail
  try rw [hH]
  have hbox : (W.alloc (Obj.cells #[Value.string l1, Value.string l2, Value.string l3, Value.bool b1, Value.string s2, Value.string s3, Value.string s4, Value.string s5, Value.bool b6] 106)).heap[H0]? = some (Obj.cells #[Value.string l1, Value.string l2, Value.string l3, Value.bool b1, Value.string s2, Value.string s3, Value.string s4, Value.string s5, Value.bool b6] 106) := by
    rw [← hH]; exact World.alloc_heap_new _ _
  have hbel : Below w.heap.size w (W.alloc (Obj.cells #[Value.string l1, Value.string l2, Value.string l3, Value.bool b1, Value.string s2, Value.string s3, Value.string s4, Value.string s5, Value.bool b6] 106)) := below_alloc hb _
  have hlim : (W.alloc (Obj.cells #[Value.string l1, Value.string l2, Value.string l3, Value.bool b1, Value.string s2, Value.string s3, Value.string s4, Value.string s5, Value.bool b6] 106)).cell? ⟨B, 0, none⟩ = some (.int .i64 lim) :=
    ((below_alloc (Below.refl _ _) _).cell hBW).trans hW
  clear hb hW hBW hH
  generalize W.alloc (Obj.cells #[Value.string l1, Value.string l2, Value.string l3, Value.bool b1, Value.string s2, Value.string s3, Value.string s4, Value.string s5, Value.bool b6] 106) = W1 at hbox hbel hlim ⊢
  have e4 : W1.cell? ⟨H0, 4, none⟩ = some (.string s2) := (blk_cell hbox 4).trans rfl
  have e5 : W1.cell? ⟨H0, 5, none⟩ = some (.string s3) := (blk_cell hbox 5).trans rfl
  have e6 : W1.cell? ⟨H0, 6, none⟩ = some (.string s4) := (blk_cell hbox 6).trans rfl
  have e7 : W1.cell? ⟨H0, 7, none⟩ = some (.string s5) := (blk_cell hbox 7).trans rfl
  go_region_held3 (fun w' => w'.cell? ⟨B, 0, none⟩ = some (.int .i64 lim) ∧ w'.cell? ⟨H0, 4, none⟩ = some (.string s2) ∧ w'.cell? ⟨H0, 5, none⟩ = some (.string s3) ∧ w'.cell? ⟨H0, 6, none⟩ = some (.string s4) ∧ w'.cell? ⟨H0, 7, none⟩ = some (.string s5) ∧ Below w.heap.size w w')
    ((first | exact fits_keep (by first | assumption | exact below_drew (below_alloc (Below.refl _ _) _) | exact below_alloc (Below.refl _ _) _ | exact below_drew (Below.refl _ _)) (by first | assumption | (refine ⟨?_, ?_, ?_, ?_, ?_, ?_⟩ <;> assumption))))
    (first | (go_at_call 71; refine (fits_run k _ 9 s2 s3 s4 s5 r _ (fits_new _ _) HX.out).mono ?_; rintro e w' ⟨rfl, hb'⟩))
  all_goals go_wp2
  all_goals go_ret
  all_goals (refine ⟨rfl, ?_⟩; first | assumption | (go_split_ands; assumption))
instance inhab106 : Inhabited S106 := ⟨z106⟩
theorem getD106 (l : List S106) (j : Nat) : l[j]! = l.getD j z106 := by rw [List.getElem!_eq_getElem?_getD, List.getD_eq_getElem?_getD]; rfl
def wide (k : Nat) (lim : Int) (x : S106) : Bool := decide (lim ≤ widest k x)
def fitsOk (k : Nat) (l : List S106) : Bool := l.all fun x => (doc_run.f k (texts106 x)).isSome
set_option maxHeartbeats 4000000 in
set_option maxRecDepth 100000 in
theorem fits_index (k B : Nat) (lim : Int) (A : Option Addr) (c : Nat) (l : List S106) (w : World) (hB : B < w.heap.size) (hc : w.cell? ⟨B, 0, none⟩ = some (.int .i64 lim))
    (hr : Kd.C k106 w A l.length l) (hok : fitsOk k l = true) :
    Calls Try.prog 143 #[.slice A l.length c, .func (.func 117) #[] #[.pointer (some ⟨B, 0, none⟩)]] w fun e w' =>
      e = .returned (.int .i64 (Lib.idxBy (fun _ y => wide k lim y) l z106)) ∧ Below w.heap.size w w' := by
  have eg : ∀ args w, (callFunc 117 args).run Try.prog w = .ok (.enter 117 args) w := enters_of Try.func117 (by kernel_rfl) rfl
  have hrun : ∀ x ∈ l, doc_run.f k (texts106 x) = some (widest k x) := by
    intro x hx
    have h1 := List.all_eq_true.1 hok x hx
    obtain ⟨r, hr⟩ := Option.isSome_iff_exists.1 h1
    unfold widest
    rw [hr]; rfl
  have hlen : l.length ≤ 9223372036854775807 := hr.2.1
  have hpred : ∀ (W : World) (x : S106), x ∈ l → Below w.heap.size w W → Calls Try.prog 117 (#[agg106 x] ++ #[.pointer (some ⟨B, 0, none⟩)]) W fun e w' => e = .returned (.bool (wide k lim x)) ∧ Below w.heap.size w w' :=
    fun W x hx hb => fits_pred k B lim w W x (widest k x) hB hc hb (hrun x hx)
  have HR0 := Aside0.mk hr
  clear hr hc hB hok hrun
  go_enter Try.func143, Try.ntmps143
  go_wp2
  go_loopg [5, 8] l.length (fun gg _ s8 wr => ∃ kk : Nat, kk ≤ l.length ∧ l.length - kk ≤ gg ∧ s8 = .int .i64 kk ∧ Aside (Below w.heap.size w wr) ∧ Aside (∀ j, j < kk → wide k lim (l.getD j z106) = false))
  case atStart => exact ⟨0, Nat.zero_le _, by omega, rfl, Below.refl _ w, fun j hj => absurd hj (Nat.not_lt_zero _)⟩
  case round =>
    obtain ⟨kk, hkk, hg, rfl, BW, AA⟩ := hrel
    by_cases hlt : kk < l.length
    · have hltz : (kk : Int) < (l.length : Int) := by omega
      obtain ⟨ad, rfl, hx0, hx1, hx2, hx3, hx4, hx5, hx6, hx7, hx8⟩ := at_T106 (Kd.C_below HR0.out BW.out) (kk : Int) (by omega) hltz
      have hcall := hpred wr (l.getD kk z106) (by rw [List.getD_eq_getElem?_getD, List.getElem?_eq_getElem hlt]; exact List.getElem_mem hlt) BW.out
      have hrd : rd_T106 l (kk : Int) = l.getD kk z106 := rfl
      rw [Int.toNat_natCast] at hx0 hx1 hx2 hx3 hx4 hx5 hx6 hx7 hx8
      rw [hrd] at hx0 hx1 hx2 hx3 hx4 hx5 hx6 hx7 hx8
      clear hpred hrd
      generalize hy : l.getD kk z106 = y at hx0 hx1 hx2 hx3 hx4 hx5 hx6 hx7 hx8 hcall
      have BB : Aside (l.getD kk z106 = y) := hy
      clear hy
      unfold agg106 at hcall
      obtain ⟨⟨l1, l2, l3⟩, b1, s2, s3, s4, s5, b6⟩ := y
      have p0 : (0 : Int) ≤ (kk : Int) := by omega
      cases hq : wide k lim ⟨⟨l1, l2, l3⟩, b1, s2, s3, s4, s5, b6⟩ with
      | true =>
        rw [hq] at hcall
        go_wp2_with (go_at_fn 117; refine hcall.mono ?_; rintro e w' ⟨rfl, hb'⟩)
        go_ret
        refine ⟨?_, hb'⟩
        have hit := Lib.idxBy_hit (fun _ y => wide k lim y) l l.length kk z106 hlt (Nat.le_refl _) (by show wide k lim l[kk]! = true; rw [getD106, BB.out]; exact hq) (fun j hj => by show wide k lim l[j]! = false; rw [getD106]; exact AA.out j hj)
        rw [List.take_length] at hit
        rw [hit]; rfl
      | false =>
        rw [hq] at hcall
        go_wp2_with (go_at_fn 117; refine hcall.mono ?_; rintro e w' ⟨rfl, hb'⟩)
        go_roundg (l.length - (kk + 1))
        case measure => omega
        case rel =>
          refine ⟨kk + 1, by omega, by omega, by go_num, hb', (show Aside _ from fun j hj => ?_)⟩
          by_cases e : j = kk
          · subst e
            rw [BB.out]; exact hq
          · exact AA.out j (by omega)
    · have hltz : ¬ (kk : Int) < (l.length : Int) := by omega
      have : kk = l.length := by omega
      subst this
      go_wp2
      go_ret
      refine ⟨?_, BW.out⟩
      have miss := Lib.idxBy_miss (fun _ y => wide k lim y) l l.length z106 (fun j hj => by show wide k lim l[j]! = false; rw [getD106]; exact AA.out j hj)
      rw [List.take_length] at miss
      rw [miss]; rfl
theorem fits_contains (k B : Nat) (lim : Int) (A : Option Addr) (c : Nat) (l : List S106) (w : World) (hB : B < w.heap.size) (hc : w.cell? ⟨B, 0, none⟩ = some (.int .i64 lim))
    (hr : Kd.C k106 w A l.length l) (hok : fitsOk k l = true) :
    Calls Try.prog 116 #[.slice A l.length c, .func (.func 117) #[] #[.pointer (some ⟨B, 0, none⟩)]] w fun e w' =>
      e = .returned (.bool (l.any (wide k lim))) ∧ Below w.heap.size w w' := by
  have hcon := fits_index k B lim A c l w hB hc hr hok
  rw [show l.any (wide k lim) = decide (0 ≤ Lib.idxBy (fun _ y => wide k lim y) l z106) from (Lib.idxBy_nonneg_iff (fun _ y => wide k lim y) l z106).symm]
  clear hr hc hok
  generalize Lib.idxBy (fun _ y => wide k lim y) l z106 = r at hcon ⊢
  go_enter Try.func116, Try.ntmps116
  go_wp2_with (go_at_call 143; refine hcon.mono ?_; rintro e w' ⟨rfl, hb'⟩)
  go_ret
  exact ⟨rfl, hb'⟩
def fitsF (k : Nat) (l : List S106) (a1 : Int) : Option Bool := if 1 ≤ a1 then (if fitsOk k l = true then some (!l.any (wide k a1)) else none) else some false
theorem fits_calls (k : Nat) (A : Option Addr) (c : Nat) (l : List S106) (a1 : Int) (r : Bool) (w : World) (hr : Kd.C k106 w A l.length l) (hc : l.length ≤ c) (h : fitsF k l a1 = some r) :
    Calls Try.prog 73 #[.slice A l.length c, .int .i64 a1] w fun e w' => e = .returned (.bool r) ∧ Below w.heap.size w w' := by
  unfold fitsF at h
  by_cases h1 : 1 ≤ a1
  · rw [if_pos h1] at h
    by_cases h2 : fitsOk k l = true
    · rw [if_pos h2] at h
      obtain rfl := Option.some.inj h
      have hcon := fits_contains k w.heap.size a1 A c l (w.alloc (.cells #[.int .i64 a1] 3)) (by simp) (by simp) (Kd.C_alloc hr _) h2
      clear hr h2
      generalize l.any (wide k a1) = q at hcon ⊢
      have h1b : decide (1 ≤ a1) = true := decide_eq_true h1
      have h1e := eq_true h1
      go_enter Try.func73, Try.ntmps73
      go_wp2_with (go_at_call 116; refine hcon.mono ?_; rintro e w' ⟨rfl, hb'⟩)
      go_ret
      exact ⟨rfl, below_step (below_alloc (Below.refl _ _) _) hb'⟩
    · rw [if_neg h2] at h; cases h
  · rw [if_neg h1] at h
    obtain rfl := Option.some.inj h
    have h1b : decide (1 ≤ a1) = false := decide_eq_false h1
    have h1e := eq_false h1
    go_enter Try.func73, Try.ntmps73
    go_wp2
    go_ret
    exact ⟨rfl, below_alloc (Below.refl _ _) _⟩
theorem fits_mono : ∀ l a1 k, LeO (fitsF k l a1) (fitsF (k + 1) l a1) := by
  intro l a1 k r h
  unfold fitsF at h ⊢
  by_cases h1 : 1 ≤ a1
  · rw [if_pos h1] at h ⊢
    by_cases h2 : fitsOk k l = true
    · rw [if_pos h2] at h
      have hx : ∀ x ∈ l, doc_run.f (k + 1) (texts106 x) = doc_run.f k (texts106 x) := by
        intro x hx
        obtain ⟨v, hv⟩ := Option.isSome_iff_exists.1 (List.all_eq_true.1 h2 x hx)
        rw [hv, doc_run.mono _ _ _ hv]
      have h3 : fitsOk (k + 1) l = true := by
        refine List.all_eq_true.2 fun x hm => ?_
        rw [hx x hm]; exact List.all_eq_true.1 h2 x hm
      have h4 : l.any (wide (k + 1) a1) = l.any (wide k a1) := by
        rw [Bool.eq_iff_iff, List.any_eq_true, List.any_eq_true]
        constructor <;> (rintro ⟨x, hm, hw⟩; refine ⟨x, hm, ?_⟩; unfold wide widest at hw ⊢; rw [hx x hm] at *; exact hw)
      rw [if_pos h3, h4]; exact h
    · rw [if_neg h2] at h; cases h
  · rw [if_neg h1] at h ⊢; exact h
end Go.Proofs.Ytfiamddinkokbaa.F
end

section
set_option linter.unusedVariables false
set_option linter.unusedSimpArgs false
namespace Go.Proofs.Ytfiamddinkokbaa.F
open Go.RowKit Go.Proofs.YtfiamddinkokbaaW.PrintWords Go.Proofs.YtfiamddinkokbaaW.PrintLast Go.Proofs.YtfiamddinkokbaaW.PrintMore
attribute [local go_sem] max2_int min2_int max_two min_two max_three min_three max_four min_four
set_option linter.unusedVariables false
set_option linter.unusedSimpArgs false
def doc_Doc_Fits.f (k : Nat) (l0 : List S106) (a1 : Int) : Option Bool := fitsF k l0 a1
theorem doc_Doc_Fits.mono : ∀ l0 a1 k, LeO (doc_Doc_Fits.f k l0 a1) (doc_Doc_Fits.f (k + 1) l0 a1) := fits_mono
theorem doc_Doc_Fits.calls (k : Nat) (A0 : Option Addr) (c0 : Nat) (l0 : List (S106)) (a1 : Int) (r : Bool) (w : World) (hr0 : Kd.C k106 w A0 l0.length l0) (hc0 : l0.length ≤ c0) (h : doc_Doc_Fits.f k l0 a1 = some r) :
    Calls Try.prog 73 #[.slice A0 l0.length c0, .int .i64 a1] w fun e w' => e = .returned (.bool r) ∧ Below w.heap.size w w' := by
  exact fits_calls k A0 c0 l0 a1 r w hr0 hc0 h
end Go.Proofs.Ytfiamddinkokbaa.F
end

section
set_option linter.unusedVariables false
set_option linter.unusedSimpArgs false
namespace Go.Proofs.Ytfiamddinkokbaa.F
open Go.RowKit Go.Proofs.YtfiamddinkokbaaW.PrintWords Go.Proofs.YtfiamddinkokbaaW.PrintLast Go.Proofs.YtfiamddinkokbaaW.PrintMore
attribute [local go_sem] max2_int min2_int max_two min_two max_three min_three max_four min_four
set_option linter.unusedVariables false
set_option linter.unusedSimpArgs false
def tripartitelaw07_told.f (k : Nat)  : Option (Bool) := (doc_Of.f k (([(⟨(⟨(⟨#[]⟩ : ByteArray), (⟨#[]⟩ : ByteArray), (⟨#[]⟩ : ByteArray)⟩ : S84), false, (⟨#[97, 10]⟩ : ByteArray), (⟨#[]⟩ : ByteArray), (⟨#[]⟩ : ByteArray), (⟨#[]⟩ : ByteArray), false⟩ : S106), (⟨(⟨(⟨#[]⟩ : ByteArray), (⟨#[]⟩ : ByteArray), (⟨#[]⟩ : ByteArray)⟩ : S84), false, (⟨#[]⟩ : ByteArray), (⟨#[]⟩ : ByteArray), (⟨#[]⟩ : ByteArray), (⟨#[]⟩ : ByteArray), false⟩ : S106), (⟨(⟨(⟨#[]⟩ : ByteArray), (⟨#[]⟩ : ByteArray), (⟨#[]⟩ : ByteArray)⟩ : S84), false, (⟨#[98]⟩ : ByteArray), (⟨#[]⟩ : ByteArray), (⟨#[]⟩ : ByteArray), (⟨#[]⟩ : ByteArray), false⟩ : S106)] : List (S106)))).bind fun t149 => (if (t149.length : Int) = 1 then (if 0 < (t149.length : Int) then (if ((rd_T106 t149 0).f2).toList = ([97, 10, 98] : List UInt8) then ((doc_Doc_Right.f k t149).bind fun t153 => (if t153 = true then ((doc_Width.f k 7 (([(⟨#[97, 10, 61, 61, 61, 61, 61, 61, 61, 61, 10]⟩ : ByteArray)] : List ByteArray))).bind fun t157 => (if t157 = 9 then ((doc_Doc_Fits.f k t149 0).bind fun t158 => (if t158 = true then (some false) else ((doc_Doc_Fits.f k t149 1).bind fun t159 => (if t159 = true then ((doc_Doc_Right.f k (([(⟨(⟨(⟨#[]⟩ : ByteArray), (⟨#[]⟩ : ByteArray), (⟨#[]⟩ : ByteArray)⟩ : S84), false, (⟨#[]⟩ : ByteArray), (⟨#[]⟩ : ByteArray), (⟨#[]⟩ : ByteArray), (⟨#[]⟩ : ByteArray), false⟩ : S106)] : List (S106)))).bind fun t163 => (if t163 = true then (some false) else ((doc_Doc_Conflicts.f k (([(⟨(⟨(⟨#[]⟩ : ByteArray), (⟨#[]⟩ : ByteArray), (⟨#[]⟩ : ByteArray)⟩ : S84), true, (⟨#[]⟩ : ByteArray), (⟨#[]⟩ : ByteArray), (⟨#[]⟩ : ByteArray), (⟨#[]⟩ : ByteArray), false⟩ : S106)] : List (S106)))).bind fun t167 => (some (t167 == 1))))) else (some false))))) else (some false))) else (some false))) else (some false)) else (none)) else (some false))
theorem tripartitelaw07_told.mono : ∀ k, LeO (tripartitelaw07_told.f k ) (tripartitelaw07_told.f (k + 1) ) := by
  intro  k
  unfold tripartitelaw07_told.f
  repeat' first
      | (with_reducible exact doc_Doc_Conflicts.mono _ _)
      | (with_reducible exact doc_Doc_Fits.mono _ _ _)
      | (with_reducible exact doc_Doc_Right.mono _ _)
      | (with_reducible exact doc_Of.mono _ _)
      | (with_reducible exact doc_Width.mono _ _ _)
      | (with_reducible exact LeO.refl _)
      | (with_reducible exact LeO.none _)
      | (with_reducible refine LeO.ite ?_ ?_)
      | (with_reducible refine LeO.bind ?_ (fun _ => ?_))
      | exact doc_Doc_Conflicts.mono _ _
      | exact doc_Doc_Fits.mono _ _ _
      | exact doc_Doc_Right.mono _ _
      | exact doc_Of.mono _ _
      | exact doc_Width.mono _ _ _
      | exact LeO.none _
      | refine LeO.ite ?_ ?_
      | refine LeO.bind ?_ (fun _ => ?_)
set_option maxHeartbeats 8000000 in
set_option maxRecDepth 100000 in
theorem tripartitelaw07_told.calls (k : Nat)  (r : Bool) (w : World) (h : tripartitelaw07_told.f k  = some r) :
    Calls Try.prog 20 #[] w fun e w' => e = .returned (.bool r) ∧ Below w.heap.size w w' := by
  have hu106 := Try.underlying106
  have HB := Aside0.mk (Below.refl w.heap.size w)
  have H : ((doc_Of.f k (([(⟨(⟨(⟨#[]⟩ : ByteArray), (⟨#[]⟩ : ByteArray), (⟨#[]⟩ : ByteArray)⟩ : S84), false, (⟨#[97, 10]⟩ : ByteArray), (⟨#[]⟩ : ByteArray), (⟨#[]⟩ : ByteArray), (⟨#[]⟩ : ByteArray), false⟩ : S106), (⟨(⟨(⟨#[]⟩ : ByteArray), (⟨#[]⟩ : ByteArray), (⟨#[]⟩ : ByteArray)⟩ : S84), false, (⟨#[]⟩ : ByteArray), (⟨#[]⟩ : ByteArray), (⟨#[]⟩ : ByteArray), (⟨#[]⟩ : ByteArray), false⟩ : S106), (⟨(⟨(⟨#[]⟩ : ByteArray), (⟨#[]⟩ : ByteArray), (⟨#[]⟩ : ByteArray)⟩ : S84), false, (⟨#[98]⟩ : ByteArray), (⟨#[]⟩ : ByteArray), (⟨#[]⟩ : ByteArray), (⟨#[]⟩ : ByteArray), false⟩ : S106)] : List (S106)))).bind fun t149 => (if (t149.length : Int) = 1 then (if 0 < (t149.length : Int) then (if ((rd_T106 t149 0).f2).toList = ([97, 10, 98] : List UInt8) then ((doc_Doc_Right.f k t149).bind fun t153 => (if t153 = true then ((doc_Width.f k 7 (([(⟨#[97, 10, 61, 61, 61, 61, 61, 61, 61, 61, 10]⟩ : ByteArray)] : List ByteArray))).bind fun t157 => (if t157 = 9 then ((doc_Doc_Fits.f k t149 0).bind fun t158 => (if t158 = true then (some false) else ((doc_Doc_Fits.f k t149 1).bind fun t159 => (if t159 = true then ((doc_Doc_Right.f k (([(⟨(⟨(⟨#[]⟩ : ByteArray), (⟨#[]⟩ : ByteArray), (⟨#[]⟩ : ByteArray)⟩ : S84), false, (⟨#[]⟩ : ByteArray), (⟨#[]⟩ : ByteArray), (⟨#[]⟩ : ByteArray), (⟨#[]⟩ : ByteArray), false⟩ : S106)] : List (S106)))).bind fun t163 => (if t163 = true then (some false) else ((doc_Doc_Conflicts.f k (([(⟨(⟨(⟨#[]⟩ : ByteArray), (⟨#[]⟩ : ByteArray), (⟨#[]⟩ : ByteArray)⟩ : S84), true, (⟨#[]⟩ : ByteArray), (⟨#[]⟩ : ByteArray), (⟨#[]⟩ : ByteArray), (⟨#[]⟩ : ByteArray), false⟩ : S106)] : List (S106)))).bind fun t167 => (some (t167 == 1))))) else (some false))))) else (some false))) else (some false))) else (some false)) else (none)) else (some false))) = some r := h
  clear h
  obtain ⟨y146, hy146⟩ : ∃ y_ : List (S106), y_ = (([(⟨(⟨(⟨#[]⟩ : ByteArray), (⟨#[]⟩ : ByteArray), (⟨#[]⟩ : ByteArray)⟩ : S84), false, (⟨#[97, 10]⟩ : ByteArray), (⟨#[]⟩ : ByteArray), (⟨#[]⟩ : ByteArray), (⟨#[]⟩ : ByteArray), false⟩ : S106), (⟨(⟨(⟨#[]⟩ : ByteArray), (⟨#[]⟩ : ByteArray), (⟨#[]⟩ : ByteArray)⟩ : S84), false, (⟨#[]⟩ : ByteArray), (⟨#[]⟩ : ByteArray), (⟨#[]⟩ : ByteArray), (⟨#[]⟩ : ByteArray), false⟩ : S106), (⟨(⟨(⟨#[]⟩ : ByteArray), (⟨#[]⟩ : ByteArray), (⟨#[]⟩ : ByteArray)⟩ : S84), false, (⟨#[98]⟩ : ByteArray), (⟨#[]⟩ : ByteArray), (⟨#[]⟩ : ByteArray), (⟨#[]⟩ : ByteArray), false⟩ : S106)] : List (S106))) := ⟨_, rfl⟩
  replace H : ((doc_Of.f k y146).bind fun t149 => (if (t149.length : Int) = 1 then (if 0 < (t149.length : Int) then (if ((rd_T106 t149 0).f2).toList = ([97, 10, 98] : List UInt8) then ((doc_Doc_Right.f k t149).bind fun t153 => (if t153 = true then ((doc_Width.f k 7 (([(⟨#[97, 10, 61, 61, 61, 61, 61, 61, 61, 61, 10]⟩ : ByteArray)] : List ByteArray))).bind fun t157 => (if t157 = 9 then ((doc_Doc_Fits.f k t149 0).bind fun t158 => (if t158 = true then (some false) else ((doc_Doc_Fits.f k t149 1).bind fun t159 => (if t159 = true then ((doc_Doc_Right.f k (([(⟨(⟨(⟨#[]⟩ : ByteArray), (⟨#[]⟩ : ByteArray), (⟨#[]⟩ : ByteArray)⟩ : S84), false, (⟨#[]⟩ : ByteArray), (⟨#[]⟩ : ByteArray), (⟨#[]⟩ : ByteArray), (⟨#[]⟩ : ByteArray), false⟩ : S106)] : List (S106)))).bind fun t163 => (if t163 = true then (some false) else ((doc_Doc_Conflicts.f k (([(⟨(⟨(⟨#[]⟩ : ByteArray), (⟨#[]⟩ : ByteArray), (⟨#[]⟩ : ByteArray)⟩ : S84), true, (⟨#[]⟩ : ByteArray), (⟨#[]⟩ : ByteArray), (⟨#[]⟩ : ByteArray), (⟨#[]⟩ : ByteArray), false⟩ : S106)] : List (S106)))).bind fun t167 => (some (t167 == 1))))) else (some false))))) else (some false))) else (some false))) else (some false)) else (none)) else (some false))) = some r := by first | (rw [hy146]; with_reducible exact H) | (have H2_ := (Option.bind_some _ _).symm.trans H; rw [hy146]; with_reducible exact H2_) | (have H2_ := (Option.bind_some _ _).symm.trans H; with_reducible exact H2_) | with_reducible exact H | (rw [hy146]; exact H) | exact H
  have Ny146 := Aside0.mk hy146
  clear hy146
  replace H := Option.bind_eq_some_iff.mp H
  obtain ⟨t149, A10, H⟩ := H
  replace H : (if (t149.length : Int) = 1 then (if 0 < (t149.length : Int) then (if ((rd_T106 t149 0).f2).toList = ([97, 10, 98] : List UInt8) then ((doc_Doc_Right.f k t149).bind fun t153 => (if t153 = true then ((doc_Width.f k 7 (([(⟨#[97, 10, 61, 61, 61, 61, 61, 61, 61, 61, 10]⟩ : ByteArray)] : List ByteArray))).bind fun t157 => (if t157 = 9 then ((doc_Doc_Fits.f k t149 0).bind fun t158 => (if t158 = true then (some false) else ((doc_Doc_Fits.f k t149 1).bind fun t159 => (if t159 = true then ((doc_Doc_Right.f k (([(⟨(⟨(⟨#[]⟩ : ByteArray), (⟨#[]⟩ : ByteArray), (⟨#[]⟩ : ByteArray)⟩ : S84), false, (⟨#[]⟩ : ByteArray), (⟨#[]⟩ : ByteArray), (⟨#[]⟩ : ByteArray), (⟨#[]⟩ : ByteArray), false⟩ : S106)] : List (S106)))).bind fun t163 => (if t163 = true then (some false) else ((doc_Doc_Conflicts.f k (([(⟨(⟨(⟨#[]⟩ : ByteArray), (⟨#[]⟩ : ByteArray), (⟨#[]⟩ : ByteArray)⟩ : S84), true, (⟨#[]⟩ : ByteArray), (⟨#[]⟩ : ByteArray), (⟨#[]⟩ : ByteArray), (⟨#[]⟩ : ByteArray), false⟩ : S106)] : List (S106)))).bind fun t167 => (some (t167 == 1))))) else (some false))))) else (some false))) else (some false))) else (some false)) else (none)) else (some false)) = some r := H
  have A1 := Aside0.mk A10
  clear A10
  by_cases c2 : (t149.length : Int) = 1
  · rw [if_pos c2] at H
    have c2b0 : ((t149.length : Int) == 1) = true := beq_iff_eq.mpr c2
    have c2b1 : ((t149.length : Int) != 1) = false := bne_eq_false_iff_eq.mpr c2
    clear c2
    by_cases c3 : 0 < (t149.length : Int)
    · rw [if_pos c3] at H
      have c3b0 : decide (0 < (t149.length : Int)) = true := decide_eq_true c3
      have c3b1 : decide (0 < t149.length) = true := decide_eq_true (by omega)
      clear c3
      by_cases c4 : ((rd_T106 t149 0).f2).toList = ([97, 10, 98] : List UInt8)
      · rw [if_pos c4] at H
        have c4b0 : (((rd_T106 t149 0).f2).toList == ([97, 10, 98] : List UInt8)) = true := beq_iff_eq.mpr c4
        have c4b1 : (((rd_T106 t149 0).f2).toList != ([97, 10, 98] : List UInt8)) = false := bne_eq_false_iff_eq.mpr c4
        clear c4
        replace H := Option.bind_eq_some_iff.mp H
        obtain ⟨t153, A50, H⟩ := H
        replace H : (if t153 = true then ((doc_Width.f k 7 (([(⟨#[97, 10, 61, 61, 61, 61, 61, 61, 61, 61, 10]⟩ : ByteArray)] : List ByteArray))).bind fun t157 => (if t157 = 9 then ((doc_Doc_Fits.f k t149 0).bind fun t158 => (if t158 = true then (some false) else ((doc_Doc_Fits.f k t149 1).bind fun t159 => (if t159 = true then ((doc_Doc_Right.f k (([(⟨(⟨(⟨#[]⟩ : ByteArray), (⟨#[]⟩ : ByteArray), (⟨#[]⟩ : ByteArray)⟩ : S84), false, (⟨#[]⟩ : ByteArray), (⟨#[]⟩ : ByteArray), (⟨#[]⟩ : ByteArray), (⟨#[]⟩ : ByteArray), false⟩ : S106)] : List (S106)))).bind fun t163 => (if t163 = true then (some false) else ((doc_Doc_Conflicts.f k (([(⟨(⟨(⟨#[]⟩ : ByteArray), (⟨#[]⟩ : ByteArray), (⟨#[]⟩ : ByteArray)⟩ : S84), true, (⟨#[]⟩ : ByteArray), (⟨#[]⟩ : ByteArray), (⟨#[]⟩ : ByteArray), (⟨#[]⟩ : ByteArray), false⟩ : S106)] : List (S106)))).bind fun t167 => (some (t167 == 1))))) else (some false))))) else (some false))) else (some false)) = some r := H
        have A5 := Aside0.mk A50
        clear A50
        by_cases c6 : t153 = true
        · subst c6
          have H1 : ((doc_Width.f k 7 (([(⟨#[97, 10, 61, 61, 61, 61, 61, 61, 61, 61, 10]⟩ : ByteArray)] : List ByteArray))).bind fun t157 => (if t157 = 9 then ((doc_Doc_Fits.f k t149 0).bind fun t158 => (if t158 = true then (some false) else ((doc_Doc_Fits.f k t149 1).bind fun t159 => (if t159 = true then ((doc_Doc_Right.f k (([(⟨(⟨(⟨#[]⟩ : ByteArray), (⟨#[]⟩ : ByteArray), (⟨#[]⟩ : ByteArray)⟩ : S84), false, (⟨#[]⟩ : ByteArray), (⟨#[]⟩ : ByteArray), (⟨#[]⟩ : ByteArray), (⟨#[]⟩ : ByteArray), false⟩ : S106)] : List (S106)))).bind fun t163 => (if t163 = true then (some false) else ((doc_Doc_Conflicts.f k (([(⟨(⟨(⟨#[]⟩ : ByteArray), (⟨#[]⟩ : ByteArray), (⟨#[]⟩ : ByteArray)⟩ : S84), true, (⟨#[]⟩ : ByteArray), (⟨#[]⟩ : ByteArray), (⟨#[]⟩ : ByteArray), (⟨#[]⟩ : ByteArray), false⟩ : S106)] : List (S106)))).bind fun t167 => (some (t167 == 1))))) else (some false))))) else (some false))) = some r := by rw [if_pos rfl] at H; exact H
          clear H
          have H := H1
          clear H1
          obtain ⟨y154, hy154⟩ : ∃ y_ : List ByteArray, y_ = (([(⟨#[97, 10, 61, 61, 61, 61, 61, 61, 61, 61, 10]⟩ : ByteArray)] : List ByteArray)) := ⟨_, rfl⟩
          replace H : ((doc_Width.f k 7 y154).bind fun t157 => (if t157 = 9 then ((doc_Doc_Fits.f k t149 0).bind fun t158 => (if t158 = true then (some false) else ((doc_Doc_Fits.f k t149 1).bind fun t159 => (if t159 = true then ((doc_Doc_Right.f k (([(⟨(⟨(⟨#[]⟩ : ByteArray), (⟨#[]⟩ : ByteArray), (⟨#[]⟩ : ByteArray)⟩ : S84), false, (⟨#[]⟩ : ByteArray), (⟨#[]⟩ : ByteArray), (⟨#[]⟩ : ByteArray), (⟨#[]⟩ : ByteArray), false⟩ : S106)] : List (S106)))).bind fun t163 => (if t163 = true then (some false) else ((doc_Doc_Conflicts.f k (([(⟨(⟨(⟨#[]⟩ : ByteArray), (⟨#[]⟩ : ByteArray), (⟨#[]⟩ : ByteArray)⟩ : S84), true, (⟨#[]⟩ : ByteArray), (⟨#[]⟩ : ByteArray), (⟨#[]⟩ : ByteArray), (⟨#[]⟩ : ByteArray), false⟩ : S106)] : List (S106)))).bind fun t167 => (some (t167 == 1))))) else (some false))))) else (some false))) = some r := by first | (rw [hy154]; with_reducible exact H) | (have H2_ := (Option.bind_some _ _).symm.trans H; rw [hy154]; with_reducible exact H2_) | (have H2_ := (Option.bind_some _ _).symm.trans H; with_reducible exact H2_) | with_reducible exact H | (rw [hy154]; exact H) | exact H
          have Ny154 := Aside0.mk hy154
          clear hy154
          replace H := Option.bind_eq_some_iff.mp H
          obtain ⟨t157, A70, H⟩ := H
          replace H : (if t157 = 9 then ((doc_Doc_Fits.f k t149 0).bind fun t158 => (if t158 = true then (some false) else ((doc_Doc_Fits.f k t149 1).bind fun t159 => (if t159 = true then ((doc_Doc_Right.f k (([(⟨(⟨(⟨#[]⟩ : ByteArray), (⟨#[]⟩ : ByteArray), (⟨#[]⟩ : ByteArray)⟩ : S84), false, (⟨#[]⟩ : ByteArray), (⟨#[]⟩ : ByteArray), (⟨#[]⟩ : ByteArray), (⟨#[]⟩ : ByteArray), false⟩ : S106)] : List (S106)))).bind fun t163 => (if t163 = true then (some false) else ((doc_Doc_Conflicts.f k (([(⟨(⟨(⟨#[]⟩ : ByteArray), (⟨#[]⟩ : ByteArray), (⟨#[]⟩ : ByteArray)⟩ : S84), true, (⟨#[]⟩ : ByteArray), (⟨#[]⟩ : ByteArray), (⟨#[]⟩ : ByteArray), (⟨#[]⟩ : ByteArray), false⟩ : S106)] : List (S106)))).bind fun t167 => (some (t167 == 1))))) else (some false))))) else (some false)) = some r := H
          have A7 := Aside0.mk A70
          clear A70
          by_cases c8 : t157 = 9
          · rw [if_pos c8] at H
            have c8b0 : (t157 == 9) = true := beq_iff_eq.mpr c8
            have c8b1 : (t157 != 9) = false := bne_eq_false_iff_eq.mpr c8
            clear c8
            replace H := Option.bind_eq_some_iff.mp H
            obtain ⟨t158, A90, H⟩ := H
            replace H : (if t158 = true then (some false) else ((doc_Doc_Fits.f k t149 1).bind fun t159 => (if t159 = true then ((doc_Doc_Right.f k (([(⟨(⟨(⟨#[]⟩ : ByteArray), (⟨#[]⟩ : ByteArray), (⟨#[]⟩ : ByteArray)⟩ : S84), false, (⟨#[]⟩ : ByteArray), (⟨#[]⟩ : ByteArray), (⟨#[]⟩ : ByteArray), (⟨#[]⟩ : ByteArray), false⟩ : S106)] : List (S106)))).bind fun t163 => (if t163 = true then (some false) else ((doc_Doc_Conflicts.f k (([(⟨(⟨(⟨#[]⟩ : ByteArray), (⟨#[]⟩ : ByteArray), (⟨#[]⟩ : ByteArray)⟩ : S84), true, (⟨#[]⟩ : ByteArray), (⟨#[]⟩ : ByteArray), (⟨#[]⟩ : ByteArray), (⟨#[]⟩ : ByteArray), false⟩ : S106)] : List (S106)))).bind fun t167 => (some (t167 == 1))))) else (some false)))) = some r := H
            have A9 := Aside0.mk A90
            clear A90
            by_cases c10 : t158 = true
            · subst c10
              have H1 : (some false) = some r := by rw [if_pos rfl] at H; exact H
              clear H
              have H := H1
              clear H1
              obtain rfl := Option.some.inj H
              go_enter Try.func20, Try.ntmps20
              go_wp2_with (first | ((with_reducible refine gate_dst (N := 5) rfl ?_); (try (refine gate_guard (by rfl) ?_; dsimp only)); refine Kd.R_lit k106 _ 106 ?hg (N := 5) ?hd (xs := ([(⟨(⟨(⟨#[]⟩ : ByteArray), (⟨#[]⟩ : ByteArray), (⟨#[]⟩ : ByteArray)⟩ : S84), false, (⟨#[97, 10]⟩ : ByteArray), (⟨#[]⟩ : ByteArray), (⟨#[]⟩ : ByteArray), (⟨#[]⟩ : ByteArray), false⟩ : S106), (⟨(⟨(⟨#[]⟩ : ByteArray), (⟨#[]⟩ : ByteArray), (⟨#[]⟩ : ByteArray)⟩ : S84), false, (⟨#[]⟩ : ByteArray), (⟨#[]⟩ : ByteArray), (⟨#[]⟩ : ByteArray), (⟨#[]⟩ : ByteArray), false⟩ : S106), (⟨(⟨(⟨#[]⟩ : ByteArray), (⟨#[]⟩ : ByteArray), (⟨#[]⟩ : ByteArray)⟩ : S84), false, (⟨#[98]⟩ : ByteArray), (⟨#[]⟩ : ByteArray), (⟨#[]⟩ : ByteArray), (⟨#[]⟩ : ByteArray), false⟩ : S106)] : List (S106))) (inner := [.string (⟨#[]⟩ : ByteArray), .string (⟨#[]⟩ : ByteArray), .string (⟨#[]⟩ : ByteArray), .bool false, .string (⟨#[97, 10]⟩ : ByteArray), .string (⟨#[]⟩ : ByteArray), .string (⟨#[]⟩ : ByteArray), .string (⟨#[]⟩ : ByteArray), .bool false, .string (⟨#[]⟩ : ByteArray), .string (⟨#[]⟩ : ByteArray), .string (⟨#[]⟩ : ByteArray), .bool false, .string (⟨#[]⟩ : ByteArray), .string (⟨#[]⟩ : ByteArray), .string (⟨#[]⟩ : ByteArray), .string (⟨#[]⟩ : ByteArray), .bool false, .string (⟨#[]⟩ : ByteArray), .string (⟨#[]⟩ : ByteArray), .string (⟨#[]⟩ : ByteArray), .bool false, .string (⟨#[98]⟩ : ByteArray), .string (⟨#[]⟩ : ByteArray), .string (⟨#[]⟩ : ByteArray), .string (⟨#[]⟩ : ByteArray), .bool false]) (ok := fun _ => True) (okp := fun _ => True) ?hr ?hp (fun _ hk => hk) trivial (Below.refl _ _) (Nat.le_refl _) (by simp) ?_; (case hd => rfl); (case hg => rfl); (case hr => first | (go_simp; done) | (go_simp; rfl)); (case hp => exact (Reps.c9 (show Kd.M k106 _ _ _ (⟨(⟨(⟨#[]⟩ : ByteArray), (⟨#[]⟩ : ByteArray), (⟨#[]⟩ : ByteArray)⟩ : S84), false, (⟨#[97, 10]⟩ : ByteArray), (⟨#[]⟩ : ByteArray), (⟨#[]⟩ : ByteArray), (⟨#[]⟩ : ByteArray), false⟩ : S106) [.string (⟨#[]⟩ : ByteArray), .string (⟨#[]⟩ : ByteArray), .string (⟨#[]⟩ : ByteArray), .bool false, .string (⟨#[97, 10]⟩ : ByteArray), .string (⟨#[]⟩ : ByteArray), .string (⟨#[]⟩ : ByteArray), .string (⟨#[]⟩ : ByteArray), .bool false] from (k106_mkM _ _ _ (⟨(⟨(⟨#[]⟩ : ByteArray), (⟨#[]⟩ : ByteArray), (⟨#[]⟩ : ByteArray)⟩ : S84), false, (⟨#[97, 10]⟩ : ByteArray), (⟨#[]⟩ : ByteArray), (⟨#[]⟩ : ByteArray), (⟨#[]⟩ : ByteArray), false⟩ : S106) )) (Reps.c9 (show Kd.M k106 _ _ _ (⟨(⟨(⟨#[]⟩ : ByteArray), (⟨#[]⟩ : ByteArray), (⟨#[]⟩ : ByteArray)⟩ : S84), false, (⟨#[]⟩ : ByteArray), (⟨#[]⟩ : ByteArray), (⟨#[]⟩ : ByteArray), (⟨#[]⟩ : ByteArray), false⟩ : S106) [.string (⟨#[]⟩ : ByteArray), .string (⟨#[]⟩ : ByteArray), .string (⟨#[]⟩ : ByteArray), .bool false, .string (⟨#[]⟩ : ByteArray), .string (⟨#[]⟩ : ByteArray), .string (⟨#[]⟩ : ByteArray), .string (⟨#[]⟩ : ByteArray), .bool false] from (k106_mkM _ _ _ (⟨(⟨(⟨#[]⟩ : ByteArray), (⟨#[]⟩ : ByteArray), (⟨#[]⟩ : ByteArray)⟩ : S84), false, (⟨#[]⟩ : ByteArray), (⟨#[]⟩ : ByteArray), (⟨#[]⟩ : ByteArray), (⟨#[]⟩ : ByteArray), false⟩ : S106) )) (Reps.c9 (show Kd.M k106 _ _ _ (⟨(⟨(⟨#[]⟩ : ByteArray), (⟨#[]⟩ : ByteArray), (⟨#[]⟩ : ByteArray)⟩ : S84), false, (⟨#[98]⟩ : ByteArray), (⟨#[]⟩ : ByteArray), (⟨#[]⟩ : ByteArray), (⟨#[]⟩ : ByteArray), false⟩ : S106) [.string (⟨#[]⟩ : ByteArray), .string (⟨#[]⟩ : ByteArray), .string (⟨#[]⟩ : ByteArray), .bool false, .string (⟨#[98]⟩ : ByteArray), .string (⟨#[]⟩ : ByteArray), .string (⟨#[]⟩ : ByteArray), .string (⟨#[]⟩ : ByteArray), .bool false] from (k106_mkM _ _ _ (⟨(⟨(⟨#[]⟩ : ByteArray), (⟨#[]⟩ : ByteArray), (⟨#[]⟩ : ByteArray)⟩ : S84), false, (⟨#[98]⟩ : ByteArray), (⟨#[]⟩ : ByteArray), (⟨#[]⟩ : ByteArray), (⟨#[]⟩ : ByteArray), false⟩ : S106) )) (Reps.none _ _))))); intro v147 w11 ho12 hb hg_ hnew_; clear hg_ hnew_; (first | rw [← Ny146.out] at ho12 | (simp only [Int.reduceToNat] at ho12; rw [← Ny146.out] at ho12)); have n0_ := Aside0.mk (Kd.R_lower ho12 (below_size (by repeat (first | (with_reducible first | exact HB.out | apply below_alloc | apply pw_below_drewN | apply below_drew1) | exact HB.out)))); have n1_ := Aside0.mk (below_step (by repeat (first | (with_reducible first | exact HB.out | apply below_alloc | apply pw_below_drewN | apply below_drew1) | exact HB.out)) hb); clear HB; have HO148 := n0_; have HB := n1_; clear n0_ n1_; clear hb ho12; obtain ⟨Ao13, co13, eo13⟩ := Kd.R_slice HO148.out; subst eo13) | ((with_reducible refine gate_callee (f := 24) rfl ?_); refine goesL_ (some 6) rfl rfl Try.func24 (by kernel_rfl) rfl #[.slice Ao13 y146.length co13] rfl (by (try simp only [List.map_toArray, List.map_cons, List.map_nil]); first | done | rfl | (simp only [List.length_drop, List.length_take]; rfl)) ?_; (with_reducible refine (doc_Of.calls k _ _ y146 t149 _ ?side1 ?side2 A1.out).mono ?_); (case side1 => repeat (first | exact (Kd.R_reads' HO148.out).2.2 | (with_reducible refine Kd.C_alloc ?_ _) | (with_reducible refine Kd.C_drewN ?_ _) | (with_reducible refine Kd.C_drew ?_))); (case side2 => exact (Kd.R_reads' HO148.out).2.1); rintro e w14 ⟨v150, rfl, ho0, hb⟩; refine ⟨_, rfl, ?_⟩; have n0_ := Aside0.mk (Kd.R_elder' (by (with_reducible repeat (first | apply Kd.R_alloc | apply Kd.R_drewN | apply Kd.R_drew)); exact HO148.out) (Kd.R_base ho0) hb); have n1_ := Aside0.mk (Kd.R_lower (Kd.R_new' ho0 (Kd.R_lt (by (with_reducible repeat (first | apply Kd.R_alloc | apply Kd.R_drewN | apply Kd.R_drew)); exact HO148.out))) (below_size (by repeat (first | (with_reducible first | exact HB.out | apply below_alloc | apply pw_below_drewN | apply below_drew1) | exact HB.out)))); have n2_ := Aside0.mk (below_step (by repeat (first | (with_reducible first | exact HB.out | apply below_alloc | apply pw_below_drewN | apply below_drew1) | exact HB.out)) hb); clear HO148; clear HB; have HO148 := n0_; have HO151 := n1_; have HB := n2_; clear n0_ n1_ n2_; (try clear hb); (try clear hb2); (try clear hk); (try clear hi); (try clear ho0); obtain ⟨Ao15, co15, eo15⟩ := Kd.R_slice HO151.out; subst eo15; have p152 : 0 ≤ (0 : Int) := (by omega); have q152 : 0 < (t149.length : Int) := of_decide_eq_true (by first | (with_reducible assumption) | assumption); obtain ⟨ad152, e152, hx152_0, hx152_1, hx152_2, hx152_3, hx152_4, hx152_5, hx152_6, hx152_7, hx152_8⟩ := at_T106 (Kd.R_reads' HO151.out).2.2 0 p152 q152; cases e152; have qi152 : (0 < t149.length) = True := eq_true (by omega); (try rw [show ((0 : Int)).toNat = 0 from rfl] at hx152_0); (try rw [show 0 * 9 = 0 from rfl] at hx152_0); (try rw [Addr.add_zero'] at hx152_0); (try rw [show ((0 : Int)).toNat = 0 from rfl] at hx152_1); (try rw [show 0 * 9 = 0 from rfl] at hx152_1); (try rw [Addr.add_zero'] at hx152_1); (try rw [show ((0 : Int)).toNat = 0 from rfl] at hx152_2); (try rw [show 0 * 9 = 0 from rfl] at hx152_2); (try rw [Addr.add_zero'] at hx152_2); (try rw [show ((0 : Int)).toNat = 0 from rfl] at hx152_3); (try rw [show 0 * 9 = 0 from rfl] at hx152_3); (try rw [Addr.add_zero'] at hx152_3); (try rw [show ((0 : Int)).toNat = 0 from rfl] at hx152_4); (try rw [show 0 * 9 = 0 from rfl] at hx152_4); (try rw [Addr.add_zero'] at hx152_4); (try rw [show ((0 : Int)).toNat = 0 from rfl] at hx152_5); (try rw [show 0 * 9 = 0 from rfl] at hx152_5); (try rw [Addr.add_zero'] at hx152_5); (try rw [show ((0 : Int)).toNat = 0 from rfl] at hx152_6); (try rw [show 0 * 9 = 0 from rfl] at hx152_6); (try rw [Addr.add_zero'] at hx152_6); (try rw [show ((0 : Int)).toNat = 0 from rfl] at hx152_7); (try rw [show 0 * 9 = 0 from rfl] at hx152_7); (try rw [Addr.add_zero'] at hx152_7); (try rw [show ((0 : Int)).toNat = 0 from rfl] at hx152_8); (try rw [show 0 * 9 = 0 from rfl] at hx152_8); (try rw [Addr.add_zero'] at hx152_8); replace p152 := eq_true p152; replace q152 := eq_true q152) | (go_at_call 72; (with_reducible refine (doc_Doc_Right.calls k _ _ t149 true _ ?side1 ?side2 A5.out).mono ?_); (case side1 => repeat (first | exact (Kd.R_reads' HO151.out).2.2 | (with_reducible refine Kd.C_alloc ?_ _) | (with_reducible refine Kd.C_drewN ?_ _) | (with_reducible refine Kd.C_drew ?_))); (case side2 => exact (Kd.R_reads' HO151.out).2.1); rintro e w16 ⟨rfl, hb⟩; have n0_ := Aside0.mk (Kd.R_below (by (with_reducible repeat (first | apply Kd.R_alloc | apply Kd.R_drewN | apply Kd.R_drew)); exact HO148.out) hb); have n1_ := Aside0.mk (Kd.R_below (by (with_reducible repeat (first | apply Kd.R_alloc | apply Kd.R_drewN | apply Kd.R_drew)); exact HO151.out) hb); have n2_ := Aside0.mk (below_step (by repeat (first | (with_reducible first | exact HB.out | apply below_alloc | apply pw_below_drewN | apply below_drew1) | exact HB.out)) hb); clear HO148; clear HO151; clear HB; have HO148 := n0_; have HO151 := n1_; have HB := n2_; clear n0_ n1_ n2_; (try clear hb); (try clear hb2); (try clear hk); (try clear hi)) | ((with_reducible refine gate_dst (N := 22) rfl ?_); (try (refine gate_guard (by rfl) ?_; dsimp only)); refine Kd.R_lit Kd.string _ 9 ?hg (N := 22) ?hd (xs := ([(⟨#[97, 10, 61, 61, 61, 61, 61, 61, 61, 61, 10]⟩ : ByteArray)] : List ByteArray)) (inner := [.string (⟨#[97, 10, 61, 61, 61, 61, 61, 61, 61, 61, 10]⟩ : ByteArray)]) (ok := fun _ => True) (okp := fun _ => True) ?hr ?hp (fun _ hk => hk) trivial (Below.refl _ _) (Nat.le_refl _) (by simp) ?_; (case hd => rfl); (case hg => rfl); (case hr => first | (go_simp; done) | (go_simp; rfl)); (case hp => exact (Reps.one (show Kd.M Kd.string _ _ _ (⟨#[97, 10, 61, 61, 61, 61, 61, 61, 61, 61, 10]⟩ : ByteArray) [.string (⟨#[97, 10, 61, 61, 61, 61, 61, 61, 61, 61, 10]⟩ : ByteArray)] from rfl) (Reps.none _ _))); intro v155 w17 ho18 hb hg_ hnew_; clear hg_ hnew_; (first | rw [← Ny154.out] at ho18 | (simp only [Int.reduceToNat] at ho18; rw [← Ny154.out] at ho18)); have n0_ := Aside0.mk (Kd.R_below (by (with_reducible repeat (first | apply Kd.R_alloc | apply Kd.R_drewN | apply Kd.R_drew)); exact HO148.out) hb); have n1_ := Aside0.mk (Kd.R_below (by (with_reducible repeat (first | apply Kd.R_alloc | apply Kd.R_drewN | apply Kd.R_drew)); exact HO151.out) hb); have n2_ := Aside0.mk (Kd.R_lower ho18 (below_size (by repeat (first | (with_reducible first | exact HB.out | apply below_alloc | apply pw_below_drewN | apply below_drew1) | exact HB.out)))); have n3_ := Aside0.mk (below_step (by repeat (first | (with_reducible first | exact HB.out | apply below_alloc | apply pw_below_drewN | apply below_drew1) | exact HB.out)) hb); clear HO148; clear HO151; clear HB; have HO148 := n0_; have HO151 := n1_; have HO156 := n2_; have HB := n3_; clear n0_ n1_ n2_ n3_; clear hb ho18; obtain ⟨Ao19, co19, eo19⟩ := Kd.R_slice HO156.out; subst eo19) | (go_at_call 19; (with_reducible refine (doc_Width.calls k 7 _ _ y154 t157 _ ?side1 ?side2 A7.out).mono ?_); (case side1 => repeat (first | exact (Kd.R_reads' HO156.out).2.2 | (with_reducible refine Kd.C_alloc ?_ _) | (with_reducible refine Kd.C_drewN ?_ _) | (with_reducible refine Kd.C_drew ?_))); (case side2 => exact (Kd.R_reads' HO156.out).2.1); rintro e w20 ⟨rfl, hb⟩; have n0_ := Aside0.mk (Kd.R_below (by (with_reducible repeat (first | apply Kd.R_alloc | apply Kd.R_drewN | apply Kd.R_drew)); exact HO148.out) hb); have n1_ := Aside0.mk (Kd.R_below (by (with_reducible repeat (first | apply Kd.R_alloc | apply Kd.R_drewN | apply Kd.R_drew)); exact HO151.out) hb); have n2_ := Aside0.mk (Kd.R_below (by (with_reducible repeat (first | apply Kd.R_alloc | apply Kd.R_drewN | apply Kd.R_drew)); exact HO156.out) hb); have n3_ := Aside0.mk (below_step (by repeat (first | (with_reducible first | exact HB.out | apply below_alloc | apply pw_below_drewN | apply below_drew1) | exact HB.out)) hb); clear HO148; clear HO151; clear HO156; clear HB; have HO148 := n0_; have HO151 := n1_; have HO156 := n2_; have HB := n3_; clear n0_ n1_ n2_ n3_; (try clear hb); (try clear hb2); (try clear hk); (try clear hi)) | (go_at_call 73; (with_reducible refine (doc_Doc_Fits.calls k _ _ t149 0 true _ ?side1 ?side2 A9.out).mono ?_); (case side1 => repeat (first | exact (Kd.R_reads' HO151.out).2.2 | (with_reducible refine Kd.C_alloc ?_ _) | (with_reducible refine Kd.C_drewN ?_ _) | (with_reducible refine Kd.C_drew ?_))); (case side2 => exact (Kd.R_reads' HO151.out).2.1); rintro e w21 ⟨rfl, hb⟩; have n0_ := Aside0.mk (Kd.R_below (by (with_reducible repeat (first | apply Kd.R_alloc | apply Kd.R_drewN | apply Kd.R_drew)); exact HO148.out) hb); have n1_ := Aside0.mk (Kd.R_below (by (with_reducible repeat (first | apply Kd.R_alloc | apply Kd.R_drewN | apply Kd.R_drew)); exact HO151.out) hb); have n2_ := Aside0.mk (Kd.R_below (by (with_reducible repeat (first | apply Kd.R_alloc | apply Kd.R_drewN | apply Kd.R_drew)); exact HO156.out) hb); have n3_ := Aside0.mk (below_step (by repeat (first | (with_reducible first | exact HB.out | apply below_alloc | apply pw_below_drewN | apply below_drew1) | exact HB.out)) hb); clear HO148; clear HO151; clear HO156; clear HB; have HO148 := n0_; have HO151 := n1_; have HO156 := n2_; have HB := n3_; clear n0_ n1_ n2_ n3_; (try clear hb); (try clear hb2); (try clear hk); (try clear hi)))
              go_ret
              exact ⟨by first | rfl | (simp [errW_none, errW_some] <;> rfl) | (simp [*, errW_none, errW_some] <;> rfl), by repeat (first | (with_reducible first | exact HB.out | apply below_alloc | apply pw_below_drewN | apply below_drew1) | exact HB.out)⟩
            · replace c10 := Bool.eq_false_iff.mpr c10
              subst c10
              have H1 : ((doc_Doc_Fits.f k t149 1).bind fun t159 => (if t159 = true then ((doc_Doc_Right.f k (([(⟨(⟨(⟨#[]⟩ : ByteArray), (⟨#[]⟩ : ByteArray), (⟨#[]⟩ : ByteArray)⟩ : S84), false, (⟨#[]⟩ : ByteArray), (⟨#[]⟩ : ByteArray), (⟨#[]⟩ : ByteArray), (⟨#[]⟩ : ByteArray), false⟩ : S106)] : List (S106)))).bind fun t163 => (if t163 = true then (some false) else ((doc_Doc_Conflicts.f k (([(⟨(⟨(⟨#[]⟩ : ByteArray), (⟨#[]⟩ : ByteArray), (⟨#[]⟩ : ByteArray)⟩ : S84), true, (⟨#[]⟩ : ByteArray), (⟨#[]⟩ : ByteArray), (⟨#[]⟩ : ByteArray), (⟨#[]⟩ : ByteArray), false⟩ : S106)] : List (S106)))).bind fun t167 => (some (t167 == 1))))) else (some false))) = some r := by rw [if_neg (show ¬ (false = true) by decide)] at H; exact H
              clear H
              have H := H1
              clear H1
              replace H := Option.bind_eq_some_iff.mp H
              obtain ⟨t159, A220, H⟩ := H
              replace H : (if t159 = true then ((doc_Doc_Right.f k (([(⟨(⟨(⟨#[]⟩ : ByteArray), (⟨#[]⟩ : ByteArray), (⟨#[]⟩ : ByteArray)⟩ : S84), false, (⟨#[]⟩ : ByteArray), (⟨#[]⟩ : ByteArray), (⟨#[]⟩ : ByteArray), (⟨#[]⟩ : ByteArray), false⟩ : S106)] : List (S106)))).bind fun t163 => (if t163 = true then (some false) else ((doc_Doc_Conflicts.f k (([(⟨(⟨(⟨#[]⟩ : ByteArray), (⟨#[]⟩ : ByteArray), (⟨#[]⟩ : ByteArray)⟩ : S84), true, (⟨#[]⟩ : ByteArray), (⟨#[]⟩ : ByteArray), (⟨#[]⟩ : ByteArray), (⟨#[]⟩ : ByteArray), false⟩ : S106)] : List (S106)))).bind fun t167 => (some (t167 == 1))))) else (some false)) = some r := H
              have A22 := Aside0.mk A220
              clear A220
              by_cases c23 : t159 = true
              · subst c23
                have H1 : ((doc_Doc_Right.f k (([(⟨(⟨(⟨#[]⟩ : ByteArray), (⟨#[]⟩ : ByteArray), (⟨#[]⟩ : ByteArray)⟩ : S84), false, (⟨#[]⟩ : ByteArray), (⟨#[]⟩ : ByteArray), (⟨#[]⟩ : ByteArray), (⟨#[]⟩ : ByteArray), false⟩ : S106)] : List (S106)))).bind fun t163 => (if t163 = true then (some false) else ((doc_Doc_Conflicts.f k (([(⟨(⟨(⟨#[]⟩ : ByteArray), (⟨#[]⟩ : ByteArray), (⟨#[]⟩ : ByteArray)⟩ : S84), true, (⟨#[]⟩ : ByteArray), (⟨#[]⟩ : ByteArray), (⟨#[]⟩ : ByteArray), (⟨#[]⟩ : ByteArray), false⟩ : S106)] : List (S106)))).bind fun t167 => (some (t167 == 1))))) = some r := by rw [if_pos rfl] at H; exact H
                clear H
                have H := H1
                clear H1
                obtain ⟨y160, hy160⟩ : ∃ y_ : List (S106), y_ = (([(⟨(⟨(⟨#[]⟩ : ByteArray), (⟨#[]⟩ : ByteArray), (⟨#[]⟩ : ByteArray)⟩ : S84), false, (⟨#[]⟩ : ByteArray), (⟨#[]⟩ : ByteArray), (⟨#[]⟩ : ByteArray), (⟨#[]⟩ : ByteArray), false⟩ : S106)] : List (S106))) := ⟨_, rfl⟩
                replace H : ((doc_Doc_Right.f k y160).bind fun t163 => (if t163 = true then (some false) else ((doc_Doc_Conflicts.f k (([(⟨(⟨(⟨#[]⟩ : ByteArray), (⟨#[]⟩ : ByteArray), (⟨#[]⟩ : ByteArray)⟩ : S84), true, (⟨#[]⟩ : ByteArray), (⟨#[]⟩ : ByteArray), (⟨#[]⟩ : ByteArray), (⟨#[]⟩ : ByteArray), false⟩ : S106)] : List (S106)))).bind fun t167 => (some (t167 == 1))))) = some r := by first | (rw [hy160]; with_reducible exact H) | (have H2_ := (Option.bind_some _ _).symm.trans H; rw [hy160]; with_reducible exact H2_) | (have H2_ := (Option.bind_some _ _).symm.trans H; with_reducible exact H2_) | with_reducible exact H | (rw [hy160]; exact H) | exact H
                have Ny160 := Aside0.mk hy160
                clear hy160
                replace H := Option.bind_eq_some_iff.mp H
                obtain ⟨t163, A240, H⟩ := H
                replace H : (if t163 = true then (some false) else ((doc_Doc_Conflicts.f k (([(⟨(⟨(⟨#[]⟩ : ByteArray), (⟨#[]⟩ : ByteArray), (⟨#[]⟩ : ByteArray)⟩ : S84), true, (⟨#[]⟩ : ByteArray), (⟨#[]⟩ : ByteArray), (⟨#[]⟩ : ByteArray), (⟨#[]⟩ : ByteArray), false⟩ : S106)] : List (S106)))).bind fun t167 => (some (t167 == 1)))) = some r := H
                have A24 := Aside0.mk A240
                clear A240
                by_cases c25 : t163 = true
                · subst c25
                  have H1 : (some false) = some r := by rw [if_pos rfl] at H; exact H
                  clear H
                  have H := H1
                  clear H1
                  obtain rfl := Option.some.inj H
                  go_enter Try.func20, Try.ntmps20
                  go_wp2_with (first | ((with_reducible refine gate_dst (N := 5) rfl ?_); (try (refine gate_guard (by rfl) ?_; dsimp only)); refine Kd.R_lit k106 _ 106 ?hg (N := 5) ?hd (xs := ([(⟨(⟨(⟨#[]⟩ : ByteArray), (⟨#[]⟩ : ByteArray), (⟨#[]⟩ : ByteArray)⟩ : S84), false, (⟨#[97, 10]⟩ : ByteArray), (⟨#[]⟩ : ByteArray), (⟨#[]⟩ : ByteArray), (⟨#[]⟩ : ByteArray), false⟩ : S106), (⟨(⟨(⟨#[]⟩ : ByteArray), (⟨#[]⟩ : ByteArray), (⟨#[]⟩ : ByteArray)⟩ : S84), false, (⟨#[]⟩ : ByteArray), (⟨#[]⟩ : ByteArray), (⟨#[]⟩ : ByteArray), (⟨#[]⟩ : ByteArray), false⟩ : S106), (⟨(⟨(⟨#[]⟩ : ByteArray), (⟨#[]⟩ : ByteArray), (⟨#[]⟩ : ByteArray)⟩ : S84), false, (⟨#[98]⟩ : ByteArray), (⟨#[]⟩ : ByteArray), (⟨#[]⟩ : ByteArray), (⟨#[]⟩ : ByteArray), false⟩ : S106)] : List (S106))) (inner := [.string (⟨#[]⟩ : ByteArray), .string (⟨#[]⟩ : ByteArray), .string (⟨#[]⟩ : ByteArray), .bool false, .string (⟨#[97, 10]⟩ : ByteArray), .string (⟨#[]⟩ : ByteArray), .string (⟨#[]⟩ : ByteArray), .string (⟨#[]⟩ : ByteArray), .bool false, .string (⟨#[]⟩ : ByteArray), .string (⟨#[]⟩ : ByteArray), .string (⟨#[]⟩ : ByteArray), .bool false, .string (⟨#[]⟩ : ByteArray), .string (⟨#[]⟩ : ByteArray), .string (⟨#[]⟩ : ByteArray), .string (⟨#[]⟩ : ByteArray), .bool false, .string (⟨#[]⟩ : ByteArray), .string (⟨#[]⟩ : ByteArray), .string (⟨#[]⟩ : ByteArray), .bool false, .string (⟨#[98]⟩ : ByteArray), .string (⟨#[]⟩ : ByteArray), .string (⟨#[]⟩ : ByteArray), .string (⟨#[]⟩ : ByteArray), .bool false]) (ok := fun _ => True) (okp := fun _ => True) ?hr ?hp (fun _ hk => hk) trivial (Below.refl _ _) (Nat.le_refl _) (by simp) ?_; (case hd => rfl); (case hg => rfl); (case hr => first | (go_simp; done) | (go_simp; rfl)); (case hp => exact (Reps.c9 (show Kd.M k106 _ _ _ (⟨(⟨(⟨#[]⟩ : ByteArray), (⟨#[]⟩ : ByteArray), (⟨#[]⟩ : ByteArray)⟩ : S84), false, (⟨#[97, 10]⟩ : ByteArray), (⟨#[]⟩ : ByteArray), (⟨#[]⟩ : ByteArray), (⟨#[]⟩ : ByteArray), false⟩ : S106) [.string (⟨#[]⟩ : ByteArray), .string (⟨#[]⟩ : ByteArray), .string (⟨#[]⟩ : ByteArray), .bool false, .string (⟨#[97, 10]⟩ : ByteArray), .string (⟨#[]⟩ : ByteArray), .string (⟨#[]⟩ : ByteArray), .string (⟨#[]⟩ : ByteArray), .bool false] from (k106_mkM _ _ _ (⟨(⟨(⟨#[]⟩ : ByteArray), (⟨#[]⟩ : ByteArray), (⟨#[]⟩ : ByteArray)⟩ : S84), false, (⟨#[97, 10]⟩ : ByteArray), (⟨#[]⟩ : ByteArray), (⟨#[]⟩ : ByteArray), (⟨#[]⟩ : ByteArray), false⟩ : S106) )) (Reps.c9 (show Kd.M k106 _ _ _ (⟨(⟨(⟨#[]⟩ : ByteArray), (⟨#[]⟩ : ByteArray), (⟨#[]⟩ : ByteArray)⟩ : S84), false, (⟨#[]⟩ : ByteArray), (⟨#[]⟩ : ByteArray), (⟨#[]⟩ : ByteArray), (⟨#[]⟩ : ByteArray), false⟩ : S106) [.string (⟨#[]⟩ : ByteArray), .string (⟨#[]⟩ : ByteArray), .string (⟨#[]⟩ : ByteArray), .bool false, .string (⟨#[]⟩ : ByteArray), .string (⟨#[]⟩ : ByteArray), .string (⟨#[]⟩ : ByteArray), .string (⟨#[]⟩ : ByteArray), .bool false] from (k106_mkM _ _ _ (⟨(⟨(⟨#[]⟩ : ByteArray), (⟨#[]⟩ : ByteArray), (⟨#[]⟩ : ByteArray)⟩ : S84), false, (⟨#[]⟩ : ByteArray), (⟨#[]⟩ : ByteArray), (⟨#[]⟩ : ByteArray), (⟨#[]⟩ : ByteArray), false⟩ : S106) )) (Reps.c9 (show Kd.M k106 _ _ _ (⟨(⟨(⟨#[]⟩ : ByteArray), (⟨#[]⟩ : ByteArray), (⟨#[]⟩ : ByteArray)⟩ : S84), false, (⟨#[98]⟩ : ByteArray), (⟨#[]⟩ : ByteArray), (⟨#[]⟩ : ByteArray), (⟨#[]⟩ : ByteArray), false⟩ : S106) [.string (⟨#[]⟩ : ByteArray), .string (⟨#[]⟩ : ByteArray), .string (⟨#[]⟩ : ByteArray), .bool false, .string (⟨#[98]⟩ : ByteArray), .string (⟨#[]⟩ : ByteArray), .string (⟨#[]⟩ : ByteArray), .string (⟨#[]⟩ : ByteArray), .bool false] from (k106_mkM _ _ _ (⟨(⟨(⟨#[]⟩ : ByteArray), (⟨#[]⟩ : ByteArray), (⟨#[]⟩ : ByteArray)⟩ : S84), false, (⟨#[98]⟩ : ByteArray), (⟨#[]⟩ : ByteArray), (⟨#[]⟩ : ByteArray), (⟨#[]⟩ : ByteArray), false⟩ : S106) )) (Reps.none _ _))))); intro v147 w26 ho27 hb hg_ hnew_; clear hg_ hnew_; (first | rw [← Ny146.out] at ho27 | (simp only [Int.reduceToNat] at ho27; rw [← Ny146.out] at ho27)); have n0_ := Aside0.mk (Kd.R_lower ho27 (below_size (by repeat (first | (with_reducible first | exact HB.out | apply below_alloc | apply pw_below_drewN | apply below_drew1) | exact HB.out)))); have n1_ := Aside0.mk (below_step (by repeat (first | (with_reducible first | exact HB.out | apply below_alloc | apply pw_below_drewN | apply below_drew1) | exact HB.out)) hb); clear HB; have HO148 := n0_; have HB := n1_; clear n0_ n1_; clear hb ho27; obtain ⟨Ao28, co28, eo28⟩ := Kd.R_slice HO148.out; subst eo28) | ((with_reducible refine gate_callee (f := 24) rfl ?_); refine goesL_ (some 6) rfl rfl Try.func24 (by kernel_rfl) rfl #[.slice Ao28 y146.length co28] rfl (by (try simp only [List.map_toArray, List.map_cons, List.map_nil]); first | done | rfl | (simp only [List.length_drop, List.length_take]; rfl)) ?_; (with_reducible refine (doc_Of.calls k _ _ y146 t149 _ ?side1 ?side2 A1.out).mono ?_); (case side1 => repeat (first | exact (Kd.R_reads' HO148.out).2.2 | (with_reducible refine Kd.C_alloc ?_ _) | (with_reducible refine Kd.C_drewN ?_ _) | (with_reducible refine Kd.C_drew ?_))); (case side2 => exact (Kd.R_reads' HO148.out).2.1); rintro e w29 ⟨v150, rfl, ho0, hb⟩; refine ⟨_, rfl, ?_⟩; have n0_ := Aside0.mk (Kd.R_elder' (by (with_reducible repeat (first | apply Kd.R_alloc | apply Kd.R_drewN | apply Kd.R_drew)); exact HO148.out) (Kd.R_base ho0) hb); have n1_ := Aside0.mk (Kd.R_lower (Kd.R_new' ho0 (Kd.R_lt (by (with_reducible repeat (first | apply Kd.R_alloc | apply Kd.R_drewN | apply Kd.R_drew)); exact HO148.out))) (below_size (by repeat (first | (with_reducible first | exact HB.out | apply below_alloc | apply pw_below_drewN | apply below_drew1) | exact HB.out)))); have n2_ := Aside0.mk (below_step (by repeat (first | (with_reducible first | exact HB.out | apply below_alloc | apply pw_below_drewN | apply below_drew1) | exact HB.out)) hb); clear HO148; clear HB; have HO148 := n0_; have HO151 := n1_; have HB := n2_; clear n0_ n1_ n2_; (try clear hb); (try clear hb2); (try clear hk); (try clear hi); (try clear ho0); obtain ⟨Ao30, co30, eo30⟩ := Kd.R_slice HO151.out; subst eo30; have p152 : 0 ≤ (0 : Int) := (by omega); have q152 : 0 < (t149.length : Int) := of_decide_eq_true (by first | (with_reducible assumption) | assumption); obtain ⟨ad152, e152, hx152_0, hx152_1, hx152_2, hx152_3, hx152_4, hx152_5, hx152_6, hx152_7, hx152_8⟩ := at_T106 (Kd.R_reads' HO151.out).2.2 0 p152 q152; cases e152; have qi152 : (0 < t149.length) = True := eq_true (by omega); (try rw [show ((0 : Int)).toNat = 0 from rfl] at hx152_0); (try rw [show 0 * 9 = 0 from rfl] at hx152_0); (try rw [Addr.add_zero'] at hx152_0); (try rw [show ((0 : Int)).toNat = 0 from rfl] at hx152_1); (try rw [show 0 * 9 = 0 from rfl] at hx152_1); (try rw [Addr.add_zero'] at hx152_1); (try rw [show ((0 : Int)).toNat = 0 from rfl] at hx152_2); (try rw [show 0 * 9 = 0 from rfl] at hx152_2); (try rw [Addr.add_zero'] at hx152_2); (try rw [show ((0 : Int)).toNat = 0 from rfl] at hx152_3); (try rw [show 0 * 9 = 0 from rfl] at hx152_3); (try rw [Addr.add_zero'] at hx152_3); (try rw [show ((0 : Int)).toNat = 0 from rfl] at hx152_4); (try rw [show 0 * 9 = 0 from rfl] at hx152_4); (try rw [Addr.add_zero'] at hx152_4); (try rw [show ((0 : Int)).toNat = 0 from rfl] at hx152_5); (try rw [show 0 * 9 = 0 from rfl] at hx152_5); (try rw [Addr.add_zero'] at hx152_5); (try rw [show ((0 : Int)).toNat = 0 from rfl] at hx152_6); (try rw [show 0 * 9 = 0 from rfl] at hx152_6); (try rw [Addr.add_zero'] at hx152_6); (try rw [show ((0 : Int)).toNat = 0 from rfl] at hx152_7); (try rw [show 0 * 9 = 0 from rfl] at hx152_7); (try rw [Addr.add_zero'] at hx152_7); (try rw [show ((0 : Int)).toNat = 0 from rfl] at hx152_8); (try rw [show 0 * 9 = 0 from rfl] at hx152_8); (try rw [Addr.add_zero'] at hx152_8); replace p152 := eq_true p152; replace q152 := eq_true q152) | (go_at_call 72; (with_reducible refine (doc_Doc_Right.calls k _ _ t149 true _ ?side1 ?side2 A5.out).mono ?_); (case side1 => repeat (first | exact (Kd.R_reads' HO151.out).2.2 | (with_reducible refine Kd.C_alloc ?_ _) | (with_reducible refine Kd.C_drewN ?_ _) | (with_reducible refine Kd.C_drew ?_))); (case side2 => exact (Kd.R_reads' HO151.out).2.1); rintro e w31 ⟨rfl, hb⟩; have n0_ := Aside0.mk (Kd.R_below (by (with_reducible repeat (first | apply Kd.R_alloc | apply Kd.R_drewN | apply Kd.R_drew)); exact HO148.out) hb); have n1_ := Aside0.mk (Kd.R_below (by (with_reducible repeat (first | apply Kd.R_alloc | apply Kd.R_drewN | apply Kd.R_drew)); exact HO151.out) hb); have n2_ := Aside0.mk (below_step (by repeat (first | (with_reducible first | exact HB.out | apply below_alloc | apply pw_below_drewN | apply below_drew1) | exact HB.out)) hb); clear HO148; clear HO151; clear HB; have HO148 := n0_; have HO151 := n1_; have HB := n2_; clear n0_ n1_ n2_; (try clear hb); (try clear hb2); (try clear hk); (try clear hi)) | ((with_reducible refine gate_dst (N := 22) rfl ?_); (try (refine gate_guard (by rfl) ?_; dsimp only)); refine Kd.R_lit Kd.string _ 9 ?hg (N := 22) ?hd (xs := ([(⟨#[97, 10, 61, 61, 61, 61, 61, 61, 61, 61, 10]⟩ : ByteArray)] : List ByteArray)) (inner := [.string (⟨#[97, 10, 61, 61, 61, 61, 61, 61, 61, 61, 10]⟩ : ByteArray)]) (ok := fun _ => True) (okp := fun _ => True) ?hr ?hp (fun _ hk => hk) trivial (Below.refl _ _) (Nat.le_refl _) (by simp) ?_; (case hd => rfl); (case hg => rfl); (case hr => first | (go_simp; done) | (go_simp; rfl)); (case hp => exact (Reps.one (show Kd.M Kd.string _ _ _ (⟨#[97, 10, 61, 61, 61, 61, 61, 61, 61, 61, 10]⟩ : ByteArray) [.string (⟨#[97, 10, 61, 61, 61, 61, 61, 61, 61, 61, 10]⟩ : ByteArray)] from rfl) (Reps.none _ _))); intro v155 w32 ho33 hb hg_ hnew_; clear hg_ hnew_; (first | rw [← Ny154.out] at ho33 | (simp only [Int.reduceToNat] at ho33; rw [← Ny154.out] at ho33)); have n0_ := Aside0.mk (Kd.R_below (by (with_reducible repeat (first | apply Kd.R_alloc | apply Kd.R_drewN | apply Kd.R_drew)); exact HO148.out) hb); have n1_ := Aside0.mk (Kd.R_below (by (with_reducible repeat (first | apply Kd.R_alloc | apply Kd.R_drewN | apply Kd.R_drew)); exact HO151.out) hb); have n2_ := Aside0.mk (Kd.R_lower ho33 (below_size (by repeat (first | (with_reducible first | exact HB.out | apply below_alloc | apply pw_below_drewN | apply below_drew1) | exact HB.out)))); have n3_ := Aside0.mk (below_step (by repeat (first | (with_reducible first | exact HB.out | apply below_alloc | apply pw_below_drewN | apply below_drew1) | exact HB.out)) hb); clear HO148; clear HO151; clear HB; have HO148 := n0_; have HO151 := n1_; have HO156 := n2_; have HB := n3_; clear n0_ n1_ n2_ n3_; clear hb ho33; obtain ⟨Ao34, co34, eo34⟩ := Kd.R_slice HO156.out; subst eo34) | (go_at_call 19; (with_reducible refine (doc_Width.calls k 7 _ _ y154 t157 _ ?side1 ?side2 A7.out).mono ?_); (case side1 => repeat (first | exact (Kd.R_reads' HO156.out).2.2 | (with_reducible refine Kd.C_alloc ?_ _) | (with_reducible refine Kd.C_drewN ?_ _) | (with_reducible refine Kd.C_drew ?_))); (case side2 => exact (Kd.R_reads' HO156.out).2.1); rintro e w35 ⟨rfl, hb⟩; have n0_ := Aside0.mk (Kd.R_below (by (with_reducible repeat (first | apply Kd.R_alloc | apply Kd.R_drewN | apply Kd.R_drew)); exact HO148.out) hb); have n1_ := Aside0.mk (Kd.R_below (by (with_reducible repeat (first | apply Kd.R_alloc | apply Kd.R_drewN | apply Kd.R_drew)); exact HO151.out) hb); have n2_ := Aside0.mk (Kd.R_below (by (with_reducible repeat (first | apply Kd.R_alloc | apply Kd.R_drewN | apply Kd.R_drew)); exact HO156.out) hb); have n3_ := Aside0.mk (below_step (by repeat (first | (with_reducible first | exact HB.out | apply below_alloc | apply pw_below_drewN | apply below_drew1) | exact HB.out)) hb); clear HO148; clear HO151; clear HO156; clear HB; have HO148 := n0_; have HO151 := n1_; have HO156 := n2_; have HB := n3_; clear n0_ n1_ n2_ n3_; (try clear hb); (try clear hb2); (try clear hk); (try clear hi)) | (go_at_call 73; (with_reducible refine (doc_Doc_Fits.calls k _ _ t149 0 false _ ?side1 ?side2 A9.out).mono ?_); (case side1 => repeat (first | exact (Kd.R_reads' HO151.out).2.2 | (with_reducible refine Kd.C_alloc ?_ _) | (with_reducible refine Kd.C_drewN ?_ _) | (with_reducible refine Kd.C_drew ?_))); (case side2 => exact (Kd.R_reads' HO151.out).2.1); rintro e w36 ⟨rfl, hb⟩; have n0_ := Aside0.mk (Kd.R_below (by (with_reducible repeat (first | apply Kd.R_alloc | apply Kd.R_drewN | apply Kd.R_drew)); exact HO148.out) hb); have n1_ := Aside0.mk (Kd.R_below (by (with_reducible repeat (first | apply Kd.R_alloc | apply Kd.R_drewN | apply Kd.R_drew)); exact HO151.out) hb); have n2_ := Aside0.mk (Kd.R_below (by (with_reducible repeat (first | apply Kd.R_alloc | apply Kd.R_drewN | apply Kd.R_drew)); exact HO156.out) hb); have n3_ := Aside0.mk (below_step (by repeat (first | (with_reducible first | exact HB.out | apply below_alloc | apply pw_below_drewN | apply below_drew1) | exact HB.out)) hb); clear HO148; clear HO151; clear HO156; clear HB; have HO148 := n0_; have HO151 := n1_; have HO156 := n2_; have HB := n3_; clear n0_ n1_ n2_ n3_; (try clear hb); (try clear hb2); (try clear hk); (try clear hi)) | (go_at_call 73; (with_reducible refine (doc_Doc_Fits.calls k _ _ t149 1 true _ ?side1 ?side2 A22.out).mono ?_); (case side1 => repeat (first | exact (Kd.R_reads' HO151.out).2.2 | (with_reducible refine Kd.C_alloc ?_ _) | (with_reducible refine Kd.C_drewN ?_ _) | (with_reducible refine Kd.C_drew ?_))); (case side2 => exact (Kd.R_reads' HO151.out).2.1); rintro e w37 ⟨rfl, hb⟩; have n0_ := Aside0.mk (Kd.R_below (by (with_reducible repeat (first | apply Kd.R_alloc | apply Kd.R_drewN | apply Kd.R_drew)); exact HO148.out) hb); have n1_ := Aside0.mk (Kd.R_below (by (with_reducible repeat (first | apply Kd.R_alloc | apply Kd.R_drewN | apply Kd.R_drew)); exact HO151.out) hb); have n2_ := Aside0.mk (Kd.R_below (by (with_reducible repeat (first | apply Kd.R_alloc | apply Kd.R_drewN | apply Kd.R_drew)); exact HO156.out) hb); have n3_ := Aside0.mk (below_step (by repeat (first | (with_reducible first | exact HB.out | apply below_alloc | apply pw_below_drewN | apply below_drew1) | exact HB.out)) hb); clear HO148; clear HO151; clear HO156; clear HB; have HO148 := n0_; have HO151 := n1_; have HO156 := n2_; have HB := n3_; clear n0_ n1_ n2_ n3_; (try clear hb); (try clear hb2); (try clear hk); (try clear hi)) | ((with_reducible refine gate_dst (N := 37) rfl ?_); (try (refine gate_guard (by rfl) ?_; dsimp only)); refine Kd.R_lit k106 _ 106 ?hg (N := 37) ?hd (xs := ([(⟨(⟨(⟨#[]⟩ : ByteArray), (⟨#[]⟩ : ByteArray), (⟨#[]⟩ : ByteArray)⟩ : S84), false, (⟨#[]⟩ : ByteArray), (⟨#[]⟩ : ByteArray), (⟨#[]⟩ : ByteArray), (⟨#[]⟩ : ByteArray), false⟩ : S106)] : List (S106))) (inner := [.string (⟨#[]⟩ : ByteArray), .string (⟨#[]⟩ : ByteArray), .string (⟨#[]⟩ : ByteArray), .bool false, .string (⟨#[]⟩ : ByteArray), .string (⟨#[]⟩ : ByteArray), .string (⟨#[]⟩ : ByteArray), .string (⟨#[]⟩ : ByteArray), .bool false]) (ok := fun _ => True) (okp := fun _ => True) ?hr ?hp (fun _ hk => hk) trivial (Below.refl _ _) (Nat.le_refl _) (by simp) ?_; (case hd => rfl); (case hg => rfl); (case hr => first | (go_simp; done) | (go_simp; rfl)); (case hp => exact (Reps.c9 (show Kd.M k106 _ _ _ (⟨(⟨(⟨#[]⟩ : ByteArray), (⟨#[]⟩ : ByteArray), (⟨#[]⟩ : ByteArray)⟩ : S84), false, (⟨#[]⟩ : ByteArray), (⟨#[]⟩ : ByteArray), (⟨#[]⟩ : ByteArray), (⟨#[]⟩ : ByteArray), false⟩ : S106) [.string (⟨#[]⟩ : ByteArray), .string (⟨#[]⟩ : ByteArray), .string (⟨#[]⟩ : ByteArray), .bool false, .string (⟨#[]⟩ : ByteArray), .string (⟨#[]⟩ : ByteArray), .string (⟨#[]⟩ : ByteArray), .string (⟨#[]⟩ : ByteArray), .bool false] from (k106_mkM _ _ _ (⟨(⟨(⟨#[]⟩ : ByteArray), (⟨#[]⟩ : ByteArray), (⟨#[]⟩ : ByteArray)⟩ : S84), false, (⟨#[]⟩ : ByteArray), (⟨#[]⟩ : ByteArray), (⟨#[]⟩ : ByteArray), (⟨#[]⟩ : ByteArray), false⟩ : S106) )) (Reps.none _ _))); intro v161 w38 ho39 hb hg_ hnew_; clear hg_ hnew_; (first | rw [← Ny160.out] at ho39 | (simp only [Int.reduceToNat] at ho39; rw [← Ny160.out] at ho39)); have n0_ := Aside0.mk (Kd.R_elder' (by (with_reducible repeat (first | apply Kd.R_alloc | apply Kd.R_drewN | apply Kd.R_drew)); exact HO148.out) (Kd.R_base ho39) hb); have n1_ := Aside0.mk (Kd.R_elder' (by (with_reducible repeat (first | apply Kd.R_alloc | apply Kd.R_drewN | apply Kd.R_drew)); exact HO151.out) (Kd.R_base ho39) hb); have n2_ := Aside0.mk (Kd.R_below (by (with_reducible repeat (first | apply Kd.R_alloc | apply Kd.R_drewN | apply Kd.R_drew)); exact HO156.out) hb); have n3_ := Aside0.mk (Kd.R_lower (Kd.R_new' (Kd.R_new' ho39 (Kd.R_lt (by (with_reducible repeat (first | apply Kd.R_alloc | apply Kd.R_drewN | apply Kd.R_drew)); exact HO148.out))) (Kd.R_lt (by (with_reducible repeat (first | apply Kd.R_alloc | apply Kd.R_drewN | apply Kd.R_drew)); exact HO151.out))) (below_size (by repeat (first | (with_reducible first | exact HB.out | apply below_alloc | apply pw_below_drewN | apply below_drew1) | exact HB.out)))); have n4_ := Aside0.mk (below_step (by repeat (first | (with_reducible first | exact HB.out | apply below_alloc | apply pw_below_drewN | apply below_drew1) | exact HB.out)) hb); clear HO148; clear HO151; clear HO156; clear HB; have HO148 := n0_; have HO151 := n1_; have HO156 := n2_; have HO162 := n3_; have HB := n4_; clear n0_ n1_ n2_ n3_ n4_; clear hb ho39; obtain ⟨Ao40, co40, eo40⟩ := Kd.R_slice HO162.out; subst eo40) | (go_at_call 72; (with_reducible refine (doc_Doc_Right.calls k _ _ y160 true _ ?side1 ?side2 A24.out).mono ?_); (case side1 => repeat (first | exact (Kd.R_reads' HO162.out).2.2 | (with_reducible refine Kd.C_alloc ?_ _) | (with_reducible refine Kd.C_drewN ?_ _) | (with_reducible refine Kd.C_drew ?_))); (case side2 => exact (Kd.R_reads' HO162.out).2.1); rintro e w41 ⟨rfl, hb⟩; have n0_ := Aside0.mk (Kd.R_below (by (with_reducible repeat (first | apply Kd.R_alloc | apply Kd.R_drewN | apply Kd.R_drew)); exact HO148.out) hb); have n1_ := Aside0.mk (Kd.R_below (by (with_reducible repeat (first | apply Kd.R_alloc | apply Kd.R_drewN | apply Kd.R_drew)); exact HO151.out) hb); have n2_ := Aside0.mk (Kd.R_below (by (with_reducible repeat (first | apply Kd.R_alloc | apply Kd.R_drewN | apply Kd.R_drew)); exact HO156.out) hb); have n3_ := Aside0.mk (Kd.R_below (by (with_reducible repeat (first | apply Kd.R_alloc | apply Kd.R_drewN | apply Kd.R_drew)); exact HO162.out) hb); have n4_ := Aside0.mk (below_step (by repeat (first | (with_reducible first | exact HB.out | apply below_alloc | apply pw_below_drewN | apply below_drew1) | exact HB.out)) hb); clear HO148; clear HO151; clear HO156; clear HO162; clear HB; have HO148 := n0_; have HO151 := n1_; have HO156 := n2_; have HO162 := n3_; have HB := n4_; clear n0_ n1_ n2_ n3_ n4_; (try clear hb); (try clear hb2); (try clear hk); (try clear hi)))
                  go_ret
                  exact ⟨by first | rfl | (simp [errW_none, errW_some] <;> rfl) | (simp [*, errW_none, errW_some] <;> rfl), by repeat (first | (with_reducible first | exact HB.out | apply below_alloc | apply pw_below_drewN | apply below_drew1) | exact HB.out)⟩
                · replace c25 := Bool.eq_false_iff.mpr c25
                  subst c25
                  have H1 : ((doc_Doc_Conflicts.f k (([(⟨(⟨(⟨#[]⟩ : ByteArray), (⟨#[]⟩ : ByteArray), (⟨#[]⟩ : ByteArray)⟩ : S84), true, (⟨#[]⟩ : ByteArray), (⟨#[]⟩ : ByteArray), (⟨#[]⟩ : ByteArray), (⟨#[]⟩ : ByteArray), false⟩ : S106)] : List (S106)))).bind fun t167 => (some (t167 == 1))) = some r := by rw [if_neg (show ¬ (false = true) by decide)] at H; exact H
                  clear H
                  have H := H1
                  clear H1
                  obtain ⟨y164, hy164⟩ : ∃ y_ : List (S106), y_ = (([(⟨(⟨(⟨#[]⟩ : ByteArray), (⟨#[]⟩ : ByteArray), (⟨#[]⟩ : ByteArray)⟩ : S84), true, (⟨#[]⟩ : ByteArray), (⟨#[]⟩ : ByteArray), (⟨#[]⟩ : ByteArray), (⟨#[]⟩ : ByteArray), false⟩ : S106)] : List (S106))) := ⟨_, rfl⟩
                  replace H : ((doc_Doc_Conflicts.f k y164).bind fun t167 => (some (t167 == 1))) = some r := by first | (rw [hy164]; with_reducible exact H) | (have H2_ := (Option.bind_some _ _).symm.trans H; rw [hy164]; with_reducible exact H2_) | (have H2_ := (Option.bind_some _ _).symm.trans H; with_reducible exact H2_) | with_reducible exact H | (rw [hy164]; exact H) | exact H
                  have Ny164 := Aside0.mk hy164
                  clear hy164
                  replace H := Option.bind_eq_some_iff.mp H
                  obtain ⟨t167, A420, H⟩ := H
                  replace H : (some (t167 == 1)) = some r := H
                  have A42 := Aside0.mk A420
                  clear A420
                  obtain rfl := Option.some.inj H
                  go_enter Try.func20, Try.ntmps20
                  go_wp2_with (first | ((with_reducible refine gate_dst (N := 5) rfl ?_); (try (refine gate_guard (by rfl) ?_; dsimp only)); refine Kd.R_lit k106 _ 106 ?hg (N := 5) ?hd (xs := ([(⟨(⟨(⟨#[]⟩ : ByteArray), (⟨#[]⟩ : ByteArray), (⟨#[]⟩ : ByteArray)⟩ : S84), false, (⟨#[97, 10]⟩ : ByteArray), (⟨#[]⟩ : ByteArray), (⟨#[]⟩ : ByteArray), (⟨#[]⟩ : ByteArray), false⟩ : S106), (⟨(⟨(⟨#[]⟩ : ByteArray), (⟨#[]⟩ : ByteArray), (⟨#[]⟩ : ByteArray)⟩ : S84), false, (⟨#[]⟩ : ByteArray), (⟨#[]⟩ : ByteArray), (⟨#[]⟩ : ByteArray), (⟨#[]⟩ : ByteArray), false⟩ : S106), (⟨(⟨(⟨#[]⟩ : ByteArray), (⟨#[]⟩ : ByteArray), (⟨#[]⟩ : ByteArray)⟩ : S84), false, (⟨#[98]⟩ : ByteArray), (⟨#[]⟩ : ByteArray), (⟨#[]⟩ : ByteArray), (⟨#[]⟩ : ByteArray), false⟩ : S106)] : List (S106))) (inner := [.string (⟨#[]⟩ : ByteArray), .string (⟨#[]⟩ : ByteArray), .string (⟨#[]⟩ : ByteArray), .bool false, .string (⟨#[97, 10]⟩ : ByteArray), .string (⟨#[]⟩ : ByteArray), .string (⟨#[]⟩ : ByteArray), .string (⟨#[]⟩ : ByteArray), .bool false, .string (⟨#[]⟩ : ByteArray), .string (⟨#[]⟩ : ByteArray), .string (⟨#[]⟩ : ByteArray), .bool false, .string (⟨#[]⟩ : ByteArray), .string (⟨#[]⟩ : ByteArray), .string (⟨#[]⟩ : ByteArray), .string (⟨#[]⟩ : ByteArray), .bool false, .string (⟨#[]⟩ : ByteArray), .string (⟨#[]⟩ : ByteArray), .string (⟨#[]⟩ : ByteArray), .bool false, .string (⟨#[98]⟩ : ByteArray), .string (⟨#[]⟩ : ByteArray), .string (⟨#[]⟩ : ByteArray), .string (⟨#[]⟩ : ByteArray), .bool false]) (ok := fun _ => True) (okp := fun _ => True) ?hr ?hp (fun _ hk => hk) trivial (Below.refl _ _) (Nat.le_refl _) (by simp) ?_; (case hd => rfl); (case hg => rfl); (case hr => first | (go_simp; done) | (go_simp; rfl)); (case hp => exact (Reps.c9 (show Kd.M k106 _ _ _ (⟨(⟨(⟨#[]⟩ : ByteArray), (⟨#[]⟩ : ByteArray), (⟨#[]⟩ : ByteArray)⟩ : S84), false, (⟨#[97, 10]⟩ : ByteArray), (⟨#[]⟩ : ByteArray), (⟨#[]⟩ : ByteArray), (⟨#[]⟩ : ByteArray), false⟩ : S106) [.string (⟨#[]⟩ : ByteArray), .string (⟨#[]⟩ : ByteArray), .string (⟨#[]⟩ : ByteArray), .bool false, .string (⟨#[97, 10]⟩ : ByteArray), .string (⟨#[]⟩ : ByteArray), .string (⟨#[]⟩ : ByteArray), .string (⟨#[]⟩ : ByteArray), .bool false] from (k106_mkM _ _ _ (⟨(⟨(⟨#[]⟩ : ByteArray), (⟨#[]⟩ : ByteArray), (⟨#[]⟩ : ByteArray)⟩ : S84), false, (⟨#[97, 10]⟩ : ByteArray), (⟨#[]⟩ : ByteArray), (⟨#[]⟩ : ByteArray), (⟨#[]⟩ : ByteArray), false⟩ : S106) )) (Reps.c9 (show Kd.M k106 _ _ _ (⟨(⟨(⟨#[]⟩ : ByteArray), (⟨#[]⟩ : ByteArray), (⟨#[]⟩ : ByteArray)⟩ : S84), false, (⟨#[]⟩ : ByteArray), (⟨#[]⟩ : ByteArray), (⟨#[]⟩ : ByteArray), (⟨#[]⟩ : ByteArray), false⟩ : S106) [.string (⟨#[]⟩ : ByteArray), .string (⟨#[]⟩ : ByteArray), .string (⟨#[]⟩ : ByteArray), .bool false, .string (⟨#[]⟩ : ByteArray), .string (⟨#[]⟩ : ByteArray), .string (⟨#[]⟩ : ByteArray), .string (⟨#[]⟩ : ByteArray), .bool false] from (k106_mkM _ _ _ (⟨(⟨(⟨#[]⟩ : ByteArray), (⟨#[]⟩ : ByteArray), (⟨#[]⟩ : ByteArray)⟩ : S84), false, (⟨#[]⟩ : ByteArray), (⟨#[]⟩ : ByteArray), (⟨#[]⟩ : ByteArray), (⟨#[]⟩ : ByteArray), false⟩ : S106) )) (Reps.c9 (show Kd.M k106 _ _ _ (⟨(⟨(⟨#[]⟩ : ByteArray), (⟨#[]⟩ : ByteArray), (⟨#[]⟩ : ByteArray)⟩ : S84), false, (⟨#[98]⟩ : ByteArray), (⟨#[]⟩ : ByteArray), (⟨#[]⟩ : ByteArray), (⟨#[]⟩ : ByteArray), false⟩ : S106) [.string (⟨#[]⟩ : ByteArray), .string (⟨#[]⟩ : ByteArray), .string (⟨#[]⟩ : ByteArray), .bool false, .string (⟨#[98]⟩ : ByteArray), .string (⟨#[]⟩ : ByteArray), .string (⟨#[]⟩ : ByteArray), .string (⟨#[]⟩ : ByteArray), .bool false] from (k106_mkM _ _ _ (⟨(⟨(⟨#[]⟩ : ByteArray), (⟨#[]⟩ : ByteArray), (⟨#[]⟩ : ByteArray)⟩ : S84), false, (⟨#[98]⟩ : ByteArray), (⟨#[]⟩ : ByteArray), (⟨#[]⟩ : ByteArray), (⟨#[]⟩ : ByteArray), false⟩ : S106) )) (Reps.none _ _))))); intro v147 w43 ho44 hb hg_ hnew_; clear hg_ hnew_; (first | rw [← Ny146.out] at ho44 | (simp only [Int.reduceToNat] at ho44; rw [← Ny146.out] at ho44)); have n0_ := Aside0.mk (Kd.R_lower ho44 (below_size (by repeat (first | (with_reducible first | exact HB.out | apply below_alloc | apply pw_below_drewN | apply below_drew1) | exact HB.out)))); have n1_ := Aside0.mk (below_step (by repeat (first | (with_reducible first | exact HB.out | apply below_alloc | apply pw_below_drewN | apply below_drew1) | exact HB.out)) hb); clear HB; have HO148 := n0_; have HB := n1_; clear n0_ n1_; clear hb ho44; obtain ⟨Ao45, co45, eo45⟩ := Kd.R_slice HO148.out; subst eo45) | ((with_reducible refine gate_callee (f := 24) rfl ?_); refine goesL_ (some 6) rfl rfl Try.func24 (by kernel_rfl) rfl #[.slice Ao45 y146.length co45] rfl (by (try simp only [List.map_toArray, List.map_cons, List.map_nil]); first | done | rfl | (simp only [List.length_drop, List.length_take]; rfl)) ?_; (with_reducible refine (doc_Of.calls k _ _ y146 t149 _ ?side1 ?side2 A1.out).mono ?_); (case side1 => repeat (first | exact (Kd.R_reads' HO148.out).2.2 | (with_reducible refine Kd.C_alloc ?_ _) | (with_reducible refine Kd.C_drewN ?_ _) | (with_reducible refine Kd.C_drew ?_))); (case side2 => exact (Kd.R_reads' HO148.out).2.1); rintro e w46 ⟨v150, rfl, ho0, hb⟩; refine ⟨_, rfl, ?_⟩; have n0_ := Aside0.mk (Kd.R_elder' (by (with_reducible repeat (first | apply Kd.R_alloc | apply Kd.R_drewN | apply Kd.R_drew)); exact HO148.out) (Kd.R_base ho0) hb); have n1_ := Aside0.mk (Kd.R_lower (Kd.R_new' ho0 (Kd.R_lt (by (with_reducible repeat (first | apply Kd.R_alloc | apply Kd.R_drewN | apply Kd.R_drew)); exact HO148.out))) (below_size (by repeat (first | (with_reducible first | exact HB.out | apply below_alloc | apply pw_below_drewN | apply below_drew1) | exact HB.out)))); have n2_ := Aside0.mk (below_step (by repeat (first | (with_reducible first | exact HB.out | apply below_alloc | apply pw_below_drewN | apply below_drew1) | exact HB.out)) hb); clear HO148; clear HB; have HO148 := n0_; have HO151 := n1_; have HB := n2_; clear n0_ n1_ n2_; (try clear hb); (try clear hb2); (try clear hk); (try clear hi); (try clear ho0); obtain ⟨Ao47, co47, eo47⟩ := Kd.R_slice HO151.out; subst eo47; have p152 : 0 ≤ (0 : Int) := (by omega); have q152 : 0 < (t149.length : Int) := of_decide_eq_true (by first | (with_reducible assumption) | assumption); obtain ⟨ad152, e152, hx152_0, hx152_1, hx152_2, hx152_3, hx152_4, hx152_5, hx152_6, hx152_7, hx152_8⟩ := at_T106 (Kd.R_reads' HO151.out).2.2 0 p152 q152; cases e152; have qi152 : (0 < t149.length) = True := eq_true (by omega); (try rw [show ((0 : Int)).toNat = 0 from rfl] at hx152_0); (try rw [show 0 * 9 = 0 from rfl] at hx152_0); (try rw [Addr.add_zero'] at hx152_0); (try rw [show ((0 : Int)).toNat = 0 from rfl] at hx152_1); (try rw [show 0 * 9 = 0 from rfl] at hx152_1); (try rw [Addr.add_zero'] at hx152_1); (try rw [show ((0 : Int)).toNat = 0 from rfl] at hx152_2); (try rw [show 0 * 9 = 0 from rfl] at hx152_2); (try rw [Addr.add_zero'] at hx152_2); (try rw [show ((0 : Int)).toNat = 0 from rfl] at hx152_3); (try rw [show 0 * 9 = 0 from rfl] at hx152_3); (try rw [Addr.add_zero'] at hx152_3); (try rw [show ((0 : Int)).toNat = 0 from rfl] at hx152_4); (try rw [show 0 * 9 = 0 from rfl] at hx152_4); (try rw [Addr.add_zero'] at hx152_4); (try rw [show ((0 : Int)).toNat = 0 from rfl] at hx152_5); (try rw [show 0 * 9 = 0 from rfl] at hx152_5); (try rw [Addr.add_zero'] at hx152_5); (try rw [show ((0 : Int)).toNat = 0 from rfl] at hx152_6); (try rw [show 0 * 9 = 0 from rfl] at hx152_6); (try rw [Addr.add_zero'] at hx152_6); (try rw [show ((0 : Int)).toNat = 0 from rfl] at hx152_7); (try rw [show 0 * 9 = 0 from rfl] at hx152_7); (try rw [Addr.add_zero'] at hx152_7); (try rw [show ((0 : Int)).toNat = 0 from rfl] at hx152_8); (try rw [show 0 * 9 = 0 from rfl] at hx152_8); (try rw [Addr.add_zero'] at hx152_8); replace p152 := eq_true p152; replace q152 := eq_true q152) | (go_at_call 72; (with_reducible refine (doc_Doc_Right.calls k _ _ t149 true _ ?side1 ?side2 A5.out).mono ?_); (case side1 => repeat (first | exact (Kd.R_reads' HO151.out).2.2 | (with_reducible refine Kd.C_alloc ?_ _) | (with_reducible refine Kd.C_drewN ?_ _) | (with_reducible refine Kd.C_drew ?_))); (case side2 => exact (Kd.R_reads' HO151.out).2.1); rintro e w48 ⟨rfl, hb⟩; have n0_ := Aside0.mk (Kd.R_below (by (with_reducible repeat (first | apply Kd.R_alloc | apply Kd.R_drewN | apply Kd.R_drew)); exact HO148.out) hb); have n1_ := Aside0.mk (Kd.R_below (by (with_reducible repeat (first | apply Kd.R_alloc | apply Kd.R_drewN | apply Kd.R_drew)); exact HO151.out) hb); have n2_ := Aside0.mk (below_step (by repeat (first | (with_reducible first | exact HB.out | apply below_alloc | apply pw_below_drewN | apply below_drew1) | exact HB.out)) hb); clear HO148; clear HO151; clear HB; have HO148 := n0_; have HO151 := n1_; have HB := n2_; clear n0_ n1_ n2_; (try clear hb); (try clear hb2); (try clear hk); (try clear hi)) | ((with_reducible refine gate_dst (N := 22) rfl ?_); (try (refine gate_guard (by rfl) ?_; dsimp only)); refine Kd.R_lit Kd.string _ 9 ?hg (N := 22) ?hd (xs := ([(⟨#[97, 10, 61, 61, 61, 61, 61, 61, 61, 61, 10]⟩ : ByteArray)] : List ByteArray)) (inner := [.string (⟨#[97, 10, 61, 61, 61, 61, 61, 61, 61, 61, 10]⟩ : ByteArray)]) (ok := fun _ => True) (okp := fun _ => True) ?hr ?hp (fun _ hk => hk) trivial (Below.refl _ _) (Nat.le_refl _) (by simp) ?_; (case hd => rfl); (case hg => rfl); (case hr => first | (go_simp; done) | (go_simp; rfl)); (case hp => exact (Reps.one (show Kd.M Kd.string _ _ _ (⟨#[97, 10, 61, 61, 61, 61, 61, 61, 61, 61, 10]⟩ : ByteArray) [.string (⟨#[97, 10, 61, 61, 61, 61, 61, 61, 61, 61, 10]⟩ : ByteArray)] from rfl) (Reps.none _ _))); intro v155 w49 ho50 hb hg_ hnew_; clear hg_ hnew_; (first | rw [← Ny154.out] at ho50 | (simp only [Int.reduceToNat] at ho50; rw [← Ny154.out] at ho50)); have n0_ := Aside0.mk (Kd.R_below (by (with_reducible repeat (first | apply Kd.R_alloc | apply Kd.R_drewN | apply Kd.R_drew)); exact HO148.out) hb); have n1_ := Aside0.mk (Kd.R_below (by (with_reducible repeat (first | apply Kd.R_alloc | apply Kd.R_drewN | apply Kd.R_drew)); exact HO151.out) hb); have n2_ := Aside0.mk (Kd.R_lower ho50 (below_size (by repeat (first | (with_reducible first | exact HB.out | apply below_alloc | apply pw_below_drewN | apply below_drew1) | exact HB.out)))); have n3_ := Aside0.mk (below_step (by repeat (first | (with_reducible first | exact HB.out | apply below_alloc | apply pw_below_drewN | apply below_drew1) | exact HB.out)) hb); clear HO148; clear HO151; clear HB; have HO148 := n0_; have HO151 := n1_; have HO156 := n2_; have HB := n3_; clear n0_ n1_ n2_ n3_; clear hb ho50; obtain ⟨Ao51, co51, eo51⟩ := Kd.R_slice HO156.out; subst eo51) | (go_at_call 19; (with_reducible refine (doc_Width.calls k 7 _ _ y154 t157 _ ?side1 ?side2 A7.out).mono ?_); (case side1 => repeat (first | exact (Kd.R_reads' HO156.out).2.2 | (with_reducible refine Kd.C_alloc ?_ _) | (with_reducible refine Kd.C_drewN ?_ _) | (with_reducible refine Kd.C_drew ?_))); (case side2 => exact (Kd.R_reads' HO156.out).2.1); rintro e w52 ⟨rfl, hb⟩; have n0_ := Aside0.mk (Kd.R_below (by (with_reducible repeat (first | apply Kd.R_alloc | apply Kd.R_drewN | apply Kd.R_drew)); exact HO148.out) hb); have n1_ := Aside0.mk (Kd.R_below (by (with_reducible repeat (first | apply Kd.R_alloc | apply Kd.R_drewN | apply Kd.R_drew)); exact HO151.out) hb); have n2_ := Aside0.mk (Kd.R_below (by (with_reducible repeat (first | apply Kd.R_alloc | apply Kd.R_drewN | apply Kd.R_drew)); exact HO156.out) hb); have n3_ := Aside0.mk (below_step (by repeat (first | (with_reducible first | exact HB.out | apply below_alloc | apply pw_below_drewN | apply below_drew1) | exact HB.out)) hb); clear HO148; clear HO151; clear HO156; clear HB; have HO148 := n0_; have HO151 := n1_; have HO156 := n2_; have HB := n3_; clear n0_ n1_ n2_ n3_; (try clear hb); (try clear hb2); (try clear hk); (try clear hi)) | (go_at_call 73; (with_reducible refine (doc_Doc_Fits.calls k _ _ t149 0 false _ ?side1 ?side2 A9.out).mono ?_); (case side1 => repeat (first | exact (Kd.R_reads' HO151.out).2.2 | (with_reducible refine Kd.C_alloc ?_ _) | (with_reducible refine Kd.C_drewN ?_ _) | (with_reducible refine Kd.C_drew ?_))); (case side2 => exact (Kd.R_reads' HO151.out).2.1); rintro e w53 ⟨rfl, hb⟩; have n0_ := Aside0.mk (Kd.R_below (by (with_reducible repeat (first | apply Kd.R_alloc | apply Kd.R_drewN | apply Kd.R_drew)); exact HO148.out) hb); have n1_ := Aside0.mk (Kd.R_below (by (with_reducible repeat (first | apply Kd.R_alloc | apply Kd.R_drewN | apply Kd.R_drew)); exact HO151.out) hb); have n2_ := Aside0.mk (Kd.R_below (by (with_reducible repeat (first | apply Kd.R_alloc | apply Kd.R_drewN | apply Kd.R_drew)); exact HO156.out) hb); have n3_ := Aside0.mk (below_step (by repeat (first | (with_reducible first | exact HB.out | apply below_alloc | apply pw_below_drewN | apply below_drew1) | exact HB.out)) hb); clear HO148; clear HO151; clear HO156; clear HB; have HO148 := n0_; have HO151 := n1_; have HO156 := n2_; have HB := n3_; clear n0_ n1_ n2_ n3_; (try clear hb); (try clear hb2); (try clear hk); (try clear hi)) | (go_at_call 73; (with_reducible refine (doc_Doc_Fits.calls k _ _ t149 1 true _ ?side1 ?side2 A22.out).mono ?_); (case side1 => repeat (first | exact (Kd.R_reads' HO151.out).2.2 | (with_reducible refine Kd.C_alloc ?_ _) | (with_reducible refine Kd.C_drewN ?_ _) | (with_reducible refine Kd.C_drew ?_))); (case side2 => exact (Kd.R_reads' HO151.out).2.1); rintro e w54 ⟨rfl, hb⟩; have n0_ := Aside0.mk (Kd.R_below (by (with_reducible repeat (first | apply Kd.R_alloc | apply Kd.R_drewN | apply Kd.R_drew)); exact HO148.out) hb); have n1_ := Aside0.mk (Kd.R_below (by (with_reducible repeat (first | apply Kd.R_alloc | apply Kd.R_drewN | apply Kd.R_drew)); exact HO151.out) hb); have n2_ := Aside0.mk (Kd.R_below (by (with_reducible repeat (first | apply Kd.R_alloc | apply Kd.R_drewN | apply Kd.R_drew)); exact HO156.out) hb); have n3_ := Aside0.mk (below_step (by repeat (first | (with_reducible first | exact HB.out | apply below_alloc | apply pw_below_drewN | apply below_drew1) | exact HB.out)) hb); clear HO148; clear HO151; clear HO156; clear HB; have HO148 := n0_; have HO151 := n1_; have HO156 := n2_; have HB := n3_; clear n0_ n1_ n2_ n3_; (try clear hb); (try clear hb2); (try clear hk); (try clear hi)) | ((with_reducible refine gate_dst (N := 37) rfl ?_); (try (refine gate_guard (by rfl) ?_; dsimp only)); refine Kd.R_lit k106 _ 106 ?hg (N := 37) ?hd (xs := ([(⟨(⟨(⟨#[]⟩ : ByteArray), (⟨#[]⟩ : ByteArray), (⟨#[]⟩ : ByteArray)⟩ : S84), false, (⟨#[]⟩ : ByteArray), (⟨#[]⟩ : ByteArray), (⟨#[]⟩ : ByteArray), (⟨#[]⟩ : ByteArray), false⟩ : S106)] : List (S106))) (inner := [.string (⟨#[]⟩ : ByteArray), .string (⟨#[]⟩ : ByteArray), .string (⟨#[]⟩ : ByteArray), .bool false, .string (⟨#[]⟩ : ByteArray), .string (⟨#[]⟩ : ByteArray), .string (⟨#[]⟩ : ByteArray), .string (⟨#[]⟩ : ByteArray), .bool false]) (ok := fun _ => True) (okp := fun _ => True) ?hr ?hp (fun _ hk => hk) trivial (Below.refl _ _) (Nat.le_refl _) (by simp) ?_; (case hd => rfl); (case hg => rfl); (case hr => first | (go_simp; done) | (go_simp; rfl)); (case hp => exact (Reps.c9 (show Kd.M k106 _ _ _ (⟨(⟨(⟨#[]⟩ : ByteArray), (⟨#[]⟩ : ByteArray), (⟨#[]⟩ : ByteArray)⟩ : S84), false, (⟨#[]⟩ : ByteArray), (⟨#[]⟩ : ByteArray), (⟨#[]⟩ : ByteArray), (⟨#[]⟩ : ByteArray), false⟩ : S106) [.string (⟨#[]⟩ : ByteArray), .string (⟨#[]⟩ : ByteArray), .string (⟨#[]⟩ : ByteArray), .bool false, .string (⟨#[]⟩ : ByteArray), .string (⟨#[]⟩ : ByteArray), .string (⟨#[]⟩ : ByteArray), .string (⟨#[]⟩ : ByteArray), .bool false] from (k106_mkM _ _ _ (⟨(⟨(⟨#[]⟩ : ByteArray), (⟨#[]⟩ : ByteArray), (⟨#[]⟩ : ByteArray)⟩ : S84), false, (⟨#[]⟩ : ByteArray), (⟨#[]⟩ : ByteArray), (⟨#[]⟩ : ByteArray), (⟨#[]⟩ : ByteArray), false⟩ : S106) )) (Reps.none _ _))); intro v161 w55 ho56 hb hg_ hnew_; clear hg_ hnew_; (first | rw [← Ny160.out] at ho56 | (simp only [Int.reduceToNat] at ho56; rw [← Ny160.out] at ho56)); have n0_ := Aside0.mk (Kd.R_elder' (by (with_reducible repeat (first | apply Kd.R_alloc | apply Kd.R_drewN | apply Kd.R_drew)); exact HO148.out) (Kd.R_base ho56) hb); have n1_ := Aside0.mk (Kd.R_elder' (by (with_reducible repeat (first | apply Kd.R_alloc | apply Kd.R_drewN | apply Kd.R_drew)); exact HO151.out) (Kd.R_base ho56) hb); have n2_ := Aside0.mk (Kd.R_below (by (with_reducible repeat (first | apply Kd.R_alloc | apply Kd.R_drewN | apply Kd.R_drew)); exact HO156.out) hb); have n3_ := Aside0.mk (Kd.R_lower (Kd.R_new' (Kd.R_new' ho56 (Kd.R_lt (by (with_reducible repeat (first | apply Kd.R_alloc | apply Kd.R_drewN | apply Kd.R_drew)); exact HO148.out))) (Kd.R_lt (by (with_reducible repeat (first | apply Kd.R_alloc | apply Kd.R_drewN | apply Kd.R_drew)); exact HO151.out))) (below_size (by repeat (first | (with_reducible first | exact HB.out | apply below_alloc | apply pw_below_drewN | apply below_drew1) | exact HB.out)))); have n4_ := Aside0.mk (below_step (by repeat (first | (with_reducible first | exact HB.out | apply below_alloc | apply pw_below_drewN | apply below_drew1) | exact HB.out)) hb); clear HO148; clear HO151; clear HO156; clear HB; have HO148 := n0_; have HO151 := n1_; have HO156 := n2_; have HO162 := n3_; have HB := n4_; clear n0_ n1_ n2_ n3_ n4_; clear hb ho56; obtain ⟨Ao57, co57, eo57⟩ := Kd.R_slice HO162.out; subst eo57) | (go_at_call 72; (with_reducible refine (doc_Doc_Right.calls k _ _ y160 false _ ?side1 ?side2 A24.out).mono ?_); (case side1 => repeat (first | exact (Kd.R_reads' HO162.out).2.2 | (with_reducible refine Kd.C_alloc ?_ _) | (with_reducible refine Kd.C_drewN ?_ _) | (with_reducible refine Kd.C_drew ?_))); (case side2 => exact (Kd.R_reads' HO162.out).2.1); rintro e w58 ⟨rfl, hb⟩; have n0_ := Aside0.mk (Kd.R_below (by (with_reducible repeat (first | apply Kd.R_alloc | apply Kd.R_drewN | apply Kd.R_drew)); exact HO148.out) hb); have n1_ := Aside0.mk (Kd.R_below (by (with_reducible repeat (first | apply Kd.R_alloc | apply Kd.R_drewN | apply Kd.R_drew)); exact HO151.out) hb); have n2_ := Aside0.mk (Kd.R_below (by (with_reducible repeat (first | apply Kd.R_alloc | apply Kd.R_drewN | apply Kd.R_drew)); exact HO156.out) hb); have n3_ := Aside0.mk (Kd.R_below (by (with_reducible repeat (first | apply Kd.R_alloc | apply Kd.R_drewN | apply Kd.R_drew)); exact HO162.out) hb); have n4_ := Aside0.mk (below_step (by repeat (first | (with_reducible first | exact HB.out | apply below_alloc | apply pw_below_drewN | apply below_drew1) | exact HB.out)) hb); clear HO148; clear HO151; clear HO156; clear HO162; clear HB; have HO148 := n0_; have HO151 := n1_; have HO156 := n2_; have HO162 := n3_; have HB := n4_; clear n0_ n1_ n2_ n3_ n4_; (try clear hb); (try clear hb2); (try clear hk); (try clear hi)) | ((with_reducible refine gate_dst (N := 43) rfl ?_); (try (refine gate_guard (by rfl) ?_; dsimp only)); refine Kd.R_lit k106 _ 106 ?hg (N := 43) ?hd (xs := ([(⟨(⟨(⟨#[]⟩ : ByteArray), (⟨#[]⟩ : ByteArray), (⟨#[]⟩ : ByteArray)⟩ : S84), true, (⟨#[]⟩ : ByteArray), (⟨#[]⟩ : ByteArray), (⟨#[]⟩ : ByteArray), (⟨#[]⟩ : ByteArray), false⟩ : S106)] : List (S106))) (inner := [.string (⟨#[]⟩ : ByteArray), .string (⟨#[]⟩ : ByteArray), .string (⟨#[]⟩ : ByteArray), .bool true, .string (⟨#[]⟩ : ByteArray), .string (⟨#[]⟩ : ByteArray), .string (⟨#[]⟩ : ByteArray), .string (⟨#[]⟩ : ByteArray), .bool false]) (ok := fun _ => True) (okp := fun _ => True) ?hr ?hp (fun _ hk => hk) trivial (Below.refl _ _) (Nat.le_refl _) (by simp) ?_; (case hd => rfl); (case hg => rfl); (case hr => first | (go_simp; done) | (go_simp; rfl)); (case hp => exact (Reps.c9 (show Kd.M k106 _ _ _ (⟨(⟨(⟨#[]⟩ : ByteArray), (⟨#[]⟩ : ByteArray), (⟨#[]⟩ : ByteArray)⟩ : S84), true, (⟨#[]⟩ : ByteArray), (⟨#[]⟩ : ByteArray), (⟨#[]⟩ : ByteArray), (⟨#[]⟩ : ByteArray), false⟩ : S106) [.string (⟨#[]⟩ : ByteArray), .string (⟨#[]⟩ : ByteArray), .string (⟨#[]⟩ : ByteArray), .bool true, .string (⟨#[]⟩ : ByteArray), .string (⟨#[]⟩ : ByteArray), .string (⟨#[]⟩ : ByteArray), .string (⟨#[]⟩ : ByteArray), .bool false] from (k106_mkM _ _ _ (⟨(⟨(⟨#[]⟩ : ByteArray), (⟨#[]⟩ : ByteArray), (⟨#[]⟩ : ByteArray)⟩ : S84), true, (⟨#[]⟩ : ByteArray), (⟨#[]⟩ : ByteArray), (⟨#[]⟩ : ByteArray), (⟨#[]⟩ : ByteArray), false⟩ : S106) )) (Reps.none _ _))); intro v165 w59 ho60 hb hg_ hnew_; clear hg_ hnew_; (first | rw [← Ny164.out] at ho60 | (simp only [Int.reduceToNat] at ho60; rw [← Ny164.out] at ho60)); have n0_ := Aside0.mk (Kd.R_elder' (by (with_reducible repeat (first | apply Kd.R_alloc | apply Kd.R_drewN | apply Kd.R_drew)); exact HO148.out) (Kd.R_base ho60) hb); have n1_ := Aside0.mk (Kd.R_elder' (by (with_reducible repeat (first | apply Kd.R_alloc | apply Kd.R_drewN | apply Kd.R_drew)); exact HO151.out) (Kd.R_base ho60) hb); have n2_ := Aside0.mk (Kd.R_below (by (with_reducible repeat (first | apply Kd.R_alloc | apply Kd.R_drewN | apply Kd.R_drew)); exact HO156.out) hb); have n3_ := Aside0.mk (Kd.R_elder' (by (with_reducible repeat (first | apply Kd.R_alloc | apply Kd.R_drewN | apply Kd.R_drew)); exact HO162.out) (Kd.R_base ho60) hb); have n4_ := Aside0.mk (Kd.R_lower (Kd.R_new' (Kd.R_new' (Kd.R_new' ho60 (Kd.R_lt (by (with_reducible repeat (first | apply Kd.R_alloc | apply Kd.R_drewN | apply Kd.R_drew)); exact HO148.out))) (Kd.R_lt (by (with_reducible repeat (first | apply Kd.R_alloc | apply Kd.R_drewN | apply Kd.R_drew)); exact HO151.out))) (Kd.R_lt (by (with_reducible repeat (first | apply Kd.R_alloc | apply Kd.R_drewN | apply Kd.R_drew)); exact HO162.out))) (below_size (by repeat (first | (with_reducible first | exact HB.out | apply below_alloc | apply pw_below_drewN | apply below_drew1) | exact HB.out)))); have n5_ := Aside0.mk (below_step (by repeat (first | (with_reducible first | exact HB.out | apply below_alloc | apply pw_below_drewN | apply below_drew1) | exact HB.out)) hb); clear HO148; clear HO151; clear HO156; clear HO162; clear HB; have HO148 := n0_; have HO151 := n1_; have HO156 := n2_; have HO162 := n3_; have HO166 := n4_; have HB := n5_; clear n0_ n1_ n2_ n3_ n4_ n5_; clear hb ho60; obtain ⟨Ao61, co61, eo61⟩ := Kd.R_slice HO166.out; subst eo61) | (go_at_call 65; (with_reducible refine (doc_Doc_Conflicts.calls k _ _ y164 t167 _ ?side1 ?side2 A42.out).mono ?_); (case side1 => repeat (first | exact (Kd.R_reads' HO166.out).2.2 | (with_reducible refine Kd.C_alloc ?_ _) | (with_reducible refine Kd.C_drewN ?_ _) | (with_reducible refine Kd.C_drew ?_))); (case side2 => exact (Kd.R_reads' HO166.out).2.1); rintro e w62 ⟨rfl, hb⟩; have n0_ := Aside0.mk (Kd.R_below (by (with_reducible repeat (first | apply Kd.R_alloc | apply Kd.R_drewN | apply Kd.R_drew)); exact HO148.out) hb); have n1_ := Aside0.mk (Kd.R_below (by (with_reducible repeat (first | apply Kd.R_alloc | apply Kd.R_drewN | apply Kd.R_drew)); exact HO151.out) hb); have n2_ := Aside0.mk (Kd.R_below (by (with_reducible repeat (first | apply Kd.R_alloc | apply Kd.R_drewN | apply Kd.R_drew)); exact HO156.out) hb); have n3_ := Aside0.mk (Kd.R_below (by (with_reducible repeat (first | apply Kd.R_alloc | apply Kd.R_drewN | apply Kd.R_drew)); exact HO162.out) hb); have n4_ := Aside0.mk (Kd.R_below (by (with_reducible repeat (first | apply Kd.R_alloc | apply Kd.R_drewN | apply Kd.R_drew)); exact HO166.out) hb); have n5_ := Aside0.mk (below_step (by repeat (first | (with_reducible first | exact HB.out | apply below_alloc | apply pw_below_drewN | apply below_drew1) | exact HB.out)) hb); clear HO148; clear HO151; clear HO156; clear HO162; clear HO166; clear HB; have HO148 := n0_; have HO151 := n1_; have HO156 := n2_; have HO162 := n3_; have HO166 := n4_; have HB := n5_; clear n0_ n1_ n2_ n3_ n4_ n5_; (try clear hb); (try clear hb2); (try clear hk); (try clear hi)))
                  go_ret
                  exact ⟨by first | rfl | (simp [errW_none, errW_some] <;> rfl) | (simp [*, errW_none, errW_some] <;> rfl), by repeat (first | (with_reducible first | exact HB.out | apply below_alloc | apply pw_below_drewN | apply below_drew1) | exact HB.out)⟩
              · replace c23 := Bool.eq_false_iff.mpr c23
                subst c23
                have H1 : (some false) = some r := by rw [if_neg (show ¬ (false = true) by decide)] at H; exact H
                clear H
                have H := H1
                clear H1
                obtain rfl := Option.some.inj H
                go_enter Try.func20, Try.ntmps20
                go_wp2_with (first | ((with_reducible refine gate_dst (N := 5) rfl ?_); (try (refine gate_guard (by rfl) ?_; dsimp only)); refine Kd.R_lit k106 _ 106 ?hg (N := 5) ?hd (xs := ([(⟨(⟨(⟨#[]⟩ : ByteArray), (⟨#[]⟩ : ByteArray), (⟨#[]⟩ : ByteArray)⟩ : S84), false, (⟨#[97, 10]⟩ : ByteArray), (⟨#[]⟩ : ByteArray), (⟨#[]⟩ : ByteArray), (⟨#[]⟩ : ByteArray), false⟩ : S106), (⟨(⟨(⟨#[]⟩ : ByteArray), (⟨#[]⟩ : ByteArray), (⟨#[]⟩ : ByteArray)⟩ : S84), false, (⟨#[]⟩ : ByteArray), (⟨#[]⟩ : ByteArray), (⟨#[]⟩ : ByteArray), (⟨#[]⟩ : ByteArray), false⟩ : S106), (⟨(⟨(⟨#[]⟩ : ByteArray), (⟨#[]⟩ : ByteArray), (⟨#[]⟩ : ByteArray)⟩ : S84), false, (⟨#[98]⟩ : ByteArray), (⟨#[]⟩ : ByteArray), (⟨#[]⟩ : ByteArray), (⟨#[]⟩ : ByteArray), false⟩ : S106)] : List (S106))) (inner := [.string (⟨#[]⟩ : ByteArray), .string (⟨#[]⟩ : ByteArray), .string (⟨#[]⟩ : ByteArray), .bool false, .string (⟨#[97, 10]⟩ : ByteArray), .string (⟨#[]⟩ : ByteArray), .string (⟨#[]⟩ : ByteArray), .string (⟨#[]⟩ : ByteArray), .bool false, .string (⟨#[]⟩ : ByteArray), .string (⟨#[]⟩ : ByteArray), .string (⟨#[]⟩ : ByteArray), .bool false, .string (⟨#[]⟩ : ByteArray), .string (⟨#[]⟩ : ByteArray), .string (⟨#[]⟩ : ByteArray), .string (⟨#[]⟩ : ByteArray), .bool false, .string (⟨#[]⟩ : ByteArray), .string (⟨#[]⟩ : ByteArray), .string (⟨#[]⟩ : ByteArray), .bool false, .string (⟨#[98]⟩ : ByteArray), .string (⟨#[]⟩ : ByteArray), .string (⟨#[]⟩ : ByteArray), .string (⟨#[]⟩ : ByteArray), .bool false]) (ok := fun _ => True) (okp := fun _ => True) ?hr ?hp (fun _ hk => hk) trivial (Below.refl _ _) (Nat.le_refl _) (by simp) ?_; (case hd => rfl); (case hg => rfl); (case hr => first | (go_simp; done) | (go_simp; rfl)); (case hp => exact (Reps.c9 (show Kd.M k106 _ _ _ (⟨(⟨(⟨#[]⟩ : ByteArray), (⟨#[]⟩ : ByteArray), (⟨#[]⟩ : ByteArray)⟩ : S84), false, (⟨#[97, 10]⟩ : ByteArray), (⟨#[]⟩ : ByteArray), (⟨#[]⟩ : ByteArray), (⟨#[]⟩ : ByteArray), false⟩ : S106) [.string (⟨#[]⟩ : ByteArray), .string (⟨#[]⟩ : ByteArray), .string (⟨#[]⟩ : ByteArray), .bool false, .string (⟨#[97, 10]⟩ : ByteArray), .string (⟨#[]⟩ : ByteArray), .string (⟨#[]⟩ : ByteArray), .string (⟨#[]⟩ : ByteArray), .bool false] from (k106_mkM _ _ _ (⟨(⟨(⟨#[]⟩ : ByteArray), (⟨#[]⟩ : ByteArray), (⟨#[]⟩ : ByteArray)⟩ : S84), false, (⟨#[97, 10]⟩ : ByteArray), (⟨#[]⟩ : ByteArray), (⟨#[]⟩ : ByteArray), (⟨#[]⟩ : ByteArray), false⟩ : S106) )) (Reps.c9 (show Kd.M k106 _ _ _ (⟨(⟨(⟨#[]⟩ : ByteArray), (⟨#[]⟩ : ByteArray), (⟨#[]⟩ : ByteArray)⟩ : S84), false, (⟨#[]⟩ : ByteArray), (⟨#[]⟩ : ByteArray), (⟨#[]⟩ : ByteArray), (⟨#[]⟩ : ByteArray), false⟩ : S106) [.string (⟨#[]⟩ : ByteArray), .string (⟨#[]⟩ : ByteArray), .string (⟨#[]⟩ : ByteArray), .bool false, .string (⟨#[]⟩ : ByteArray), .string (⟨#[]⟩ : ByteArray), .string (⟨#[]⟩ : ByteArray), .string (⟨#[]⟩ : ByteArray), .bool false] from (k106_mkM _ _ _ (⟨(⟨(⟨#[]⟩ : ByteArray), (⟨#[]⟩ : ByteArray), (⟨#[]⟩ : ByteArray)⟩ : S84), false, (⟨#[]⟩ : ByteArray), (⟨#[]⟩ : ByteArray), (⟨#[]⟩ : ByteArray), (⟨#[]⟩ : ByteArray), false⟩ : S106) )) (Reps.c9 (show Kd.M k106 _ _ _ (⟨(⟨(⟨#[]⟩ : ByteArray), (⟨#[]⟩ : ByteArray), (⟨#[]⟩ : ByteArray)⟩ : S84), false, (⟨#[98]⟩ : ByteArray), (⟨#[]⟩ : ByteArray), (⟨#[]⟩ : ByteArray), (⟨#[]⟩ : ByteArray), false⟩ : S106) [.string (⟨#[]⟩ : ByteArray), .string (⟨#[]⟩ : ByteArray), .string (⟨#[]⟩ : ByteArray), .bool false, .string (⟨#[98]⟩ : ByteArray), .string (⟨#[]⟩ : ByteArray), .string (⟨#[]⟩ : ByteArray), .string (⟨#[]⟩ : ByteArray), .bool false] from (k106_mkM _ _ _ (⟨(⟨(⟨#[]⟩ : ByteArray), (⟨#[]⟩ : ByteArray), (⟨#[]⟩ : ByteArray)⟩ : S84), false, (⟨#[98]⟩ : ByteArray), (⟨#[]⟩ : ByteArray), (⟨#[]⟩ : ByteArray), (⟨#[]⟩ : ByteArray), false⟩ : S106) )) (Reps.none _ _))))); intro v147 w63 ho64 hb hg_ hnew_; clear hg_ hnew_; (first | rw [← Ny146.out] at ho64 | (simp only [Int.reduceToNat] at ho64; rw [← Ny146.out] at ho64)); have n0_ := Aside0.mk (Kd.R_lower ho64 (below_size (by repeat (first | (with_reducible first | exact HB.out | apply below_alloc | apply pw_below_drewN | apply below_drew1) | exact HB.out)))); have n1_ := Aside0.mk (below_step (by repeat (first | (with_reducible first | exact HB.out | apply below_alloc | apply pw_below_drewN | apply below_drew1) | exact HB.out)) hb); clear HB; have HO148 := n0_; have HB := n1_; clear n0_ n1_; clear hb ho64; obtain ⟨Ao65, co65, eo65⟩ := Kd.R_slice HO148.out; subst eo65) | ((with_reducible refine gate_callee (f := 24) rfl ?_); refine goesL_ (some 6) rfl rfl Try.func24 (by kernel_rfl) rfl #[.slice Ao65 y146.length co65] rfl (by (try simp only [List.map_toArray, List.map_cons, List.map_nil]); first | done | rfl | (simp only [List.length_drop, List.length_take]; rfl)) ?_; (with_reducible refine (doc_Of.calls k _ _ y146 t149 _ ?side1 ?side2 A1.out).mono ?_); (case side1 => repeat (first | exact (Kd.R_reads' HO148.out).2.2 | (with_reducible refine Kd.C_alloc ?_ _) | (with_reducible refine Kd.C_drewN ?_ _) | (with_reducible refine Kd.C_drew ?_))); (case side2 => exact (Kd.R_reads' HO148.out).2.1); rintro e w66 ⟨v150, rfl, ho0, hb⟩; refine ⟨_, rfl, ?_⟩; have n0_ := Aside0.mk (Kd.R_elder' (by (with_reducible repeat (first | apply Kd.R_alloc | apply Kd.R_drewN | apply Kd.R_drew)); exact HO148.out) (Kd.R_base ho0) hb); have n1_ := Aside0.mk (Kd.R_lower (Kd.R_new' ho0 (Kd.R_lt (by (with_reducible repeat (first | apply Kd.R_alloc | apply Kd.R_drewN | apply Kd.R_drew)); exact HO148.out))) (below_size (by repeat (first | (with_reducible first | exact HB.out | apply below_alloc | apply pw_below_drewN | apply below_drew1) | exact HB.out)))); have n2_ := Aside0.mk (below_step (by repeat (first | (with_reducible first | exact HB.out | apply below_alloc | apply pw_below_drewN | apply below_drew1) | exact HB.out)) hb); clear HO148; clear HB; have HO148 := n0_; have HO151 := n1_; have HB := n2_; clear n0_ n1_ n2_; (try clear hb); (try clear hb2); (try clear hk); (try clear hi); (try clear ho0); obtain ⟨Ao67, co67, eo67⟩ := Kd.R_slice HO151.out; subst eo67; have p152 : 0 ≤ (0 : Int) := (by omega); have q152 : 0 < (t149.length : Int) := of_decide_eq_true (by first | (with_reducible assumption) | assumption); obtain ⟨ad152, e152, hx152_0, hx152_1, hx152_2, hx152_3, hx152_4, hx152_5, hx152_6, hx152_7, hx152_8⟩ := at_T106 (Kd.R_reads' HO151.out).2.2 0 p152 q152; cases e152; have qi152 : (0 < t149.length) = True := eq_true (by omega); (try rw [show ((0 : Int)).toNat = 0 from rfl] at hx152_0); (try rw [show 0 * 9 = 0 from rfl] at hx152_0); (try rw [Addr.add_zero'] at hx152_0); (try rw [show ((0 : Int)).toNat = 0 from rfl] at hx152_1); (try rw [show 0 * 9 = 0 from rfl] at hx152_1); (try rw [Addr.add_zero'] at hx152_1); (try rw [show ((0 : Int)).toNat = 0 from rfl] at hx152_2); (try rw [show 0 * 9 = 0 from rfl] at hx152_2); (try rw [Addr.add_zero'] at hx152_2); (try rw [show ((0 : Int)).toNat = 0 from rfl] at hx152_3); (try rw [show 0 * 9 = 0 from rfl] at hx152_3); (try rw [Addr.add_zero'] at hx152_3); (try rw [show ((0 : Int)).toNat = 0 from rfl] at hx152_4); (try rw [show 0 * 9 = 0 from rfl] at hx152_4); (try rw [Addr.add_zero'] at hx152_4); (try rw [show ((0 : Int)).toNat = 0 from rfl] at hx152_5); (try rw [show 0 * 9 = 0 from rfl] at hx152_5); (try rw [Addr.add_zero'] at hx152_5); (try rw [show ((0 : Int)).toNat = 0 from rfl] at hx152_6); (try rw [show 0 * 9 = 0 from rfl] at hx152_6); (try rw [Addr.add_zero'] at hx152_6); (try rw [show ((0 : Int)).toNat = 0 from rfl] at hx152_7); (try rw [show 0 * 9 = 0 from rfl] at hx152_7); (try rw [Addr.add_zero'] at hx152_7); (try rw [show ((0 : Int)).toNat = 0 from rfl] at hx152_8); (try rw [show 0 * 9 = 0 from rfl] at hx152_8); (try rw [Addr.add_zero'] at hx152_8); replace p152 := eq_true p152; replace q152 := eq_true q152) | (go_at_call 72; (with_reducible refine (doc_Doc_Right.calls k _ _ t149 true _ ?side1 ?side2 A5.out).mono ?_); (case side1 => repeat (first | exact (Kd.R_reads' HO151.out).2.2 | (with_reducible refine Kd.C_alloc ?_ _) | (with_reducible refine Kd.C_drewN ?_ _) | (with_reducible refine Kd.C_drew ?_))); (case side2 => exact (Kd.R_reads' HO151.out).2.1); rintro e w68 ⟨rfl, hb⟩; have n0_ := Aside0.mk (Kd.R_below (by (with_reducible repeat (first | apply Kd.R_alloc | apply Kd.R_drewN | apply Kd.R_drew)); exact HO148.out) hb); have n1_ := Aside0.mk (Kd.R_below (by (with_reducible repeat (first | apply Kd.R_alloc | apply Kd.R_drewN | apply Kd.R_drew)); exact HO151.out) hb); have n2_ := Aside0.mk (below_step (by repeat (first | (with_reducible first | exact HB.out | apply below_alloc | apply pw_below_drewN | apply below_drew1) | exact HB.out)) hb); clear HO148; clear HO151; clear HB; have HO148 := n0_; have HO151 := n1_; have HB := n2_; clear n0_ n1_ n2_; (try clear hb); (try clear hb2); (try clear hk); (try clear hi)) | ((with_reducible refine gate_dst (N := 22) rfl ?_); (try (refine gate_guard (by rfl) ?_; dsimp only)); refine Kd.R_lit Kd.string _ 9 ?hg (N := 22) ?hd (xs := ([(⟨#[97, 10, 61, 61, 61, 61, 61, 61, 61, 61, 10]⟩ : ByteArray)] : List ByteArray)) (inner := [.string (⟨#[97, 10, 61, 61, 61, 61, 61, 61, 61, 61, 10]⟩ : ByteArray)]) (ok := fun _ => True) (okp := fun _ => True) ?hr ?hp (fun _ hk => hk) trivial (Below.refl _ _) (Nat.le_refl _) (by simp) ?_; (case hd => rfl); (case hg => rfl); (case hr => first | (go_simp; done) | (go_simp; rfl)); (case hp => exact (Reps.one (show Kd.M Kd.string _ _ _ (⟨#[97, 10, 61, 61, 61, 61, 61, 61, 61, 61, 10]⟩ : ByteArray) [.string (⟨#[97, 10, 61, 61, 61, 61, 61, 61, 61, 61, 10]⟩ : ByteArray)] from rfl) (Reps.none _ _))); intro v155 w69 ho70 hb hg_ hnew_; clear hg_ hnew_; (first | rw [← Ny154.out] at ho70 | (simp only [Int.reduceToNat] at ho70; rw [← Ny154.out] at ho70)); have n0_ := Aside0.mk (Kd.R_below (by (with_reducible repeat (first | apply Kd.R_alloc | apply Kd.R_drewN | apply Kd.R_drew)); exact HO148.out) hb); have n1_ := Aside0.mk (Kd.R_below (by (with_reducible repeat (first | apply Kd.R_alloc | apply Kd.R_drewN | apply Kd.R_drew)); exact HO151.out) hb); have n2_ := Aside0.mk (Kd.R_lower ho70 (below_size (by repeat (first | (with_reducible first | exact HB.out | apply below_alloc | apply pw_below_drewN | apply below_drew1) | exact HB.out)))); have n3_ := Aside0.mk (below_step (by repeat (first | (with_reducible first | exact HB.out | apply below_alloc | apply pw_below_drewN | apply below_drew1) | exact HB.out)) hb); clear HO148; clear HO151; clear HB; have HO148 := n0_; have HO151 := n1_; have HO156 := n2_; have HB := n3_; clear n0_ n1_ n2_ n3_; clear hb ho70; obtain ⟨Ao71, co71, eo71⟩ := Kd.R_slice HO156.out; subst eo71) | (go_at_call 19; (with_reducible refine (doc_Width.calls k 7 _ _ y154 t157 _ ?side1 ?side2 A7.out).mono ?_); (case side1 => repeat (first | exact (Kd.R_reads' HO156.out).2.2 | (with_reducible refine Kd.C_alloc ?_ _) | (with_reducible refine Kd.C_drewN ?_ _) | (with_reducible refine Kd.C_drew ?_))); (case side2 => exact (Kd.R_reads' HO156.out).2.1); rintro e w72 ⟨rfl, hb⟩; have n0_ := Aside0.mk (Kd.R_below (by (with_reducible repeat (first | apply Kd.R_alloc | apply Kd.R_drewN | apply Kd.R_drew)); exact HO148.out) hb); have n1_ := Aside0.mk (Kd.R_below (by (with_reducible repeat (first | apply Kd.R_alloc | apply Kd.R_drewN | apply Kd.R_drew)); exact HO151.out) hb); have n2_ := Aside0.mk (Kd.R_below (by (with_reducible repeat (first | apply Kd.R_alloc | apply Kd.R_drewN | apply Kd.R_drew)); exact HO156.out) hb); have n3_ := Aside0.mk (below_step (by repeat (first | (with_reducible first | exact HB.out | apply below_alloc | apply pw_below_drewN | apply below_drew1) | exact HB.out)) hb); clear HO148; clear HO151; clear HO156; clear HB; have HO148 := n0_; have HO151 := n1_; have HO156 := n2_; have HB := n3_; clear n0_ n1_ n2_ n3_; (try clear hb); (try clear hb2); (try clear hk); (try clear hi)) | (go_at_call 73; (with_reducible refine (doc_Doc_Fits.calls k _ _ t149 0 false _ ?side1 ?side2 A9.out).mono ?_); (case side1 => repeat (first | exact (Kd.R_reads' HO151.out).2.2 | (with_reducible refine Kd.C_alloc ?_ _) | (with_reducible refine Kd.C_drewN ?_ _) | (with_reducible refine Kd.C_drew ?_))); (case side2 => exact (Kd.R_reads' HO151.out).2.1); rintro e w73 ⟨rfl, hb⟩; have n0_ := Aside0.mk (Kd.R_below (by (with_reducible repeat (first | apply Kd.R_alloc | apply Kd.R_drewN | apply Kd.R_drew)); exact HO148.out) hb); have n1_ := Aside0.mk (Kd.R_below (by (with_reducible repeat (first | apply Kd.R_alloc | apply Kd.R_drewN | apply Kd.R_drew)); exact HO151.out) hb); have n2_ := Aside0.mk (Kd.R_below (by (with_reducible repeat (first | apply Kd.R_alloc | apply Kd.R_drewN | apply Kd.R_drew)); exact HO156.out) hb); have n3_ := Aside0.mk (below_step (by repeat (first | (with_reducible first | exact HB.out | apply below_alloc | apply pw_below_drewN | apply below_drew1) | exact HB.out)) hb); clear HO148; clear HO151; clear HO156; clear HB; have HO148 := n0_; have HO151 := n1_; have HO156 := n2_; have HB := n3_; clear n0_ n1_ n2_ n3_; (try clear hb); (try clear hb2); (try clear hk); (try clear hi)) | (go_at_call 73; (with_reducible refine (doc_Doc_Fits.calls k _ _ t149 1 false _ ?side1 ?side2 A22.out).mono ?_); (case side1 => repeat (first | exact (Kd.R_reads' HO151.out).2.2 | (with_reducible refine Kd.C_alloc ?_ _) | (with_reducible refine Kd.C_drewN ?_ _) | (with_reducible refine Kd.C_drew ?_))); (case side2 => exact (Kd.R_reads' HO151.out).2.1); rintro e w74 ⟨rfl, hb⟩; have n0_ := Aside0.mk (Kd.R_below (by (with_reducible repeat (first | apply Kd.R_alloc | apply Kd.R_drewN | apply Kd.R_drew)); exact HO148.out) hb); have n1_ := Aside0.mk (Kd.R_below (by (with_reducible repeat (first | apply Kd.R_alloc | apply Kd.R_drewN | apply Kd.R_drew)); exact HO151.out) hb); have n2_ := Aside0.mk (Kd.R_below (by (with_reducible repeat (first | apply Kd.R_alloc | apply Kd.R_drewN | apply Kd.R_drew)); exact HO156.out) hb); have n3_ := Aside0.mk (below_step (by repeat (first | (with_reducible first | exact HB.out | apply below_alloc | apply pw_below_drewN | apply below_drew1) | exact HB.out)) hb); clear HO148; clear HO151; clear HO156; clear HB; have HO148 := n0_; have HO151 := n1_; have HO156 := n2_; have HB := n3_; clear n0_ n1_ n2_ n3_; (try clear hb); (try clear hb2); (try clear hk); (try clear hi)))
                go_ret
                exact ⟨by first | rfl | (simp [errW_none, errW_some] <;> rfl) | (simp [*, errW_none, errW_some] <;> rfl), by repeat (first | (with_reducible first | exact HB.out | apply below_alloc | apply pw_below_drewN | apply below_drew1) | exact HB.out)⟩
          · rw [if_neg c8] at H
            have c8b0 : (t157 == 9) = false := beq_eq_false_iff_ne.mpr c8
            have c8b1 : (t157 != 9) = true := bne_iff_ne.mpr c8
            obtain rfl := Option.some.inj H
            go_enter Try.func20, Try.ntmps20
            go_wp2_with (first | ((with_reducible refine gate_dst (N := 5) rfl ?_); (try (refine gate_guard (by rfl) ?_; dsimp only)); refine Kd.R_lit k106 _ 106 ?hg (N := 5) ?hd (xs := ([(⟨(⟨(⟨#[]⟩ : ByteArray), (⟨#[]⟩ : ByteArray), (⟨#[]⟩ : ByteArray)⟩ : S84), false, (⟨#[97, 10]⟩ : ByteArray), (⟨#[]⟩ : ByteArray), (⟨#[]⟩ : ByteArray), (⟨#[]⟩ : ByteArray), false⟩ : S106), (⟨(⟨(⟨#[]⟩ : ByteArray), (⟨#[]⟩ : ByteArray), (⟨#[]⟩ : ByteArray)⟩ : S84), false, (⟨#[]⟩ : ByteArray), (⟨#[]⟩ : ByteArray), (⟨#[]⟩ : ByteArray), (⟨#[]⟩ : ByteArray), false⟩ : S106), (⟨(⟨(⟨#[]⟩ : ByteArray), (⟨#[]⟩ : ByteArray), (⟨#[]⟩ : ByteArray)⟩ : S84), false, (⟨#[98]⟩ : ByteArray), (⟨#[]⟩ : ByteArray), (⟨#[]⟩ : ByteArray), (⟨#[]⟩ : ByteArray), false⟩ : S106)] : List (S106))) (inner := [.string (⟨#[]⟩ : ByteArray), .string (⟨#[]⟩ : ByteArray), .string (⟨#[]⟩ : ByteArray), .bool false, .string (⟨#[97, 10]⟩ : ByteArray), .string (⟨#[]⟩ : ByteArray), .string (⟨#[]⟩ : ByteArray), .string (⟨#[]⟩ : ByteArray), .bool false, .string (⟨#[]⟩ : ByteArray), .string (⟨#[]⟩ : ByteArray), .string (⟨#[]⟩ : ByteArray), .bool false, .string (⟨#[]⟩ : ByteArray), .string (⟨#[]⟩ : ByteArray), .string (⟨#[]⟩ : ByteArray), .string (⟨#[]⟩ : ByteArray), .bool false, .string (⟨#[]⟩ : ByteArray), .string (⟨#[]⟩ : ByteArray), .string (⟨#[]⟩ : ByteArray), .bool false, .string (⟨#[98]⟩ : ByteArray), .string (⟨#[]⟩ : ByteArray), .string (⟨#[]⟩ : ByteArray), .string (⟨#[]⟩ : ByteArray), .bool false]) (ok := fun _ => True) (okp := fun _ => True) ?hr ?hp (fun _ hk => hk) trivial (Below.refl _ _) (Nat.le_refl _) (by simp) ?_; (case hd => rfl); (case hg => rfl); (case hr => first | (go_simp; done) | (go_simp; rfl)); (case hp => exact (Reps.c9 (show Kd.M k106 _ _ _ (⟨(⟨(⟨#[]⟩ : ByteArray), (⟨#[]⟩ : ByteArray), (⟨#[]⟩ : ByteArray)⟩ : S84), false, (⟨#[97, 10]⟩ : ByteArray), (⟨#[]⟩ : ByteArray), (⟨#[]⟩ : ByteArray), (⟨#[]⟩ : ByteArray), false⟩ : S106) [.string (⟨#[]⟩ : ByteArray), .string (⟨#[]⟩ : ByteArray), .string (⟨#[]⟩ : ByteArray), .bool false, .string (⟨#[97, 10]⟩ : ByteArray), .string (⟨#[]⟩ : ByteArray), .string (⟨#[]⟩ : ByteArray), .string (⟨#[]⟩ : ByteArray), .bool false] from (k106_mkM _ _ _ (⟨(⟨(⟨#[]⟩ : ByteArray), (⟨#[]⟩ : ByteArray), (⟨#[]⟩ : ByteArray)⟩ : S84), false, (⟨#[97, 10]⟩ : ByteArray), (⟨#[]⟩ : ByteArray), (⟨#[]⟩ : ByteArray), (⟨#[]⟩ : ByteArray), false⟩ : S106) )) (Reps.c9 (show Kd.M k106 _ _ _ (⟨(⟨(⟨#[]⟩ : ByteArray), (⟨#[]⟩ : ByteArray), (⟨#[]⟩ : ByteArray)⟩ : S84), false, (⟨#[]⟩ : ByteArray), (⟨#[]⟩ : ByteArray), (⟨#[]⟩ : ByteArray), (⟨#[]⟩ : ByteArray), false⟩ : S106) [.string (⟨#[]⟩ : ByteArray), .string (⟨#[]⟩ : ByteArray), .string (⟨#[]⟩ : ByteArray), .bool false, .string (⟨#[]⟩ : ByteArray), .string (⟨#[]⟩ : ByteArray), .string (⟨#[]⟩ : ByteArray), .string (⟨#[]⟩ : ByteArray), .bool false] from (k106_mkM _ _ _ (⟨(⟨(⟨#[]⟩ : ByteArray), (⟨#[]⟩ : ByteArray), (⟨#[]⟩ : ByteArray)⟩ : S84), false, (⟨#[]⟩ : ByteArray), (⟨#[]⟩ : ByteArray), (⟨#[]⟩ : ByteArray), (⟨#[]⟩ : ByteArray), false⟩ : S106) )) (Reps.c9 (show Kd.M k106 _ _ _ (⟨(⟨(⟨#[]⟩ : ByteArray), (⟨#[]⟩ : ByteArray), (⟨#[]⟩ : ByteArray)⟩ : S84), false, (⟨#[98]⟩ : ByteArray), (⟨#[]⟩ : ByteArray), (⟨#[]⟩ : ByteArray), (⟨#[]⟩ : ByteArray), false⟩ : S106) [.string (⟨#[]⟩ : ByteArray), .string (⟨#[]⟩ : ByteArray), .string (⟨#[]⟩ : ByteArray), .bool false, .string (⟨#[98]⟩ : ByteArray), .string (⟨#[]⟩ : ByteArray), .string (⟨#[]⟩ : ByteArray), .string (⟨#[]⟩ : ByteArray), .bool false] from (k106_mkM _ _ _ (⟨(⟨(⟨#[]⟩ : ByteArray), (⟨#[]⟩ : ByteArray), (⟨#[]⟩ : ByteArray)⟩ : S84), false, (⟨#[98]⟩ : ByteArray), (⟨#[]⟩ : ByteArray), (⟨#[]⟩ : ByteArray), (⟨#[]⟩ : ByteArray), false⟩ : S106) )) (Reps.none _ _))))); intro v147 w75 ho76 hb hg_ hnew_; clear hg_ hnew_; (first | rw [← Ny146.out] at ho76 | (simp only [Int.reduceToNat] at ho76; rw [← Ny146.out] at ho76)); have n0_ := Aside0.mk (Kd.R_lower ho76 (below_size (by repeat (first | (with_reducible first | exact HB.out | apply below_alloc | apply pw_below_drewN | apply below_drew1) | exact HB.out)))); have n1_ := Aside0.mk (below_step (by repeat (first | (with_reducible first | exact HB.out | apply below_alloc | apply pw_below_drewN | apply below_drew1) | exact HB.out)) hb); clear HB; have HO148 := n0_; have HB := n1_; clear n0_ n1_; clear hb ho76; obtain ⟨Ao77, co77, eo77⟩ := Kd.R_slice HO148.out; subst eo77) | ((with_reducible refine gate_callee (f := 24) rfl ?_); refine goesL_ (some 6) rfl rfl Try.func24 (by kernel_rfl) rfl #[.slice Ao77 y146.length co77] rfl (by (try simp only [List.map_toArray, List.map_cons, List.map_nil]); first | done | rfl | (simp only [List.length_drop, List.length_take]; rfl)) ?_; (with_reducible refine (doc_Of.calls k _ _ y146 t149 _ ?side1 ?side2 A1.out).mono ?_); (case side1 => repeat (first | exact (Kd.R_reads' HO148.out).2.2 | (with_reducible refine Kd.C_alloc ?_ _) | (with_reducible refine Kd.C_drewN ?_ _) | (with_reducible refine Kd.C_drew ?_))); (case side2 => exact (Kd.R_reads' HO148.out).2.1); rintro e w78 ⟨v150, rfl, ho0, hb⟩; refine ⟨_, rfl, ?_⟩; have n0_ := Aside0.mk (Kd.R_elder' (by (with_reducible repeat (first | apply Kd.R_alloc | apply Kd.R_drewN | apply Kd.R_drew)); exact HO148.out) (Kd.R_base ho0) hb); have n1_ := Aside0.mk (Kd.R_lower (Kd.R_new' ho0 (Kd.R_lt (by (with_reducible repeat (first | apply Kd.R_alloc | apply Kd.R_drewN | apply Kd.R_drew)); exact HO148.out))) (below_size (by repeat (first | (with_reducible first | exact HB.out | apply below_alloc | apply pw_below_drewN | apply below_drew1) | exact HB.out)))); have n2_ := Aside0.mk (below_step (by repeat (first | (with_reducible first | exact HB.out | apply below_alloc | apply pw_below_drewN | apply below_drew1) | exact HB.out)) hb); clear HO148; clear HB; have HO148 := n0_; have HO151 := n1_; have HB := n2_; clear n0_ n1_ n2_; (try clear hb); (try clear hb2); (try clear hk); (try clear hi); (try clear ho0); obtain ⟨Ao79, co79, eo79⟩ := Kd.R_slice HO151.out; subst eo79; have p152 : 0 ≤ (0 : Int) := (by omega); have q152 : 0 < (t149.length : Int) := of_decide_eq_true (by first | (with_reducible assumption) | assumption); obtain ⟨ad152, e152, hx152_0, hx152_1, hx152_2, hx152_3, hx152_4, hx152_5, hx152_6, hx152_7, hx152_8⟩ := at_T106 (Kd.R_reads' HO151.out).2.2 0 p152 q152; cases e152; have qi152 : (0 < t149.length) = True := eq_true (by omega); (try rw [show ((0 : Int)).toNat = 0 from rfl] at hx152_0); (try rw [show 0 * 9 = 0 from rfl] at hx152_0); (try rw [Addr.add_zero'] at hx152_0); (try rw [show ((0 : Int)).toNat = 0 from rfl] at hx152_1); (try rw [show 0 * 9 = 0 from rfl] at hx152_1); (try rw [Addr.add_zero'] at hx152_1); (try rw [show ((0 : Int)).toNat = 0 from rfl] at hx152_2); (try rw [show 0 * 9 = 0 from rfl] at hx152_2); (try rw [Addr.add_zero'] at hx152_2); (try rw [show ((0 : Int)).toNat = 0 from rfl] at hx152_3); (try rw [show 0 * 9 = 0 from rfl] at hx152_3); (try rw [Addr.add_zero'] at hx152_3); (try rw [show ((0 : Int)).toNat = 0 from rfl] at hx152_4); (try rw [show 0 * 9 = 0 from rfl] at hx152_4); (try rw [Addr.add_zero'] at hx152_4); (try rw [show ((0 : Int)).toNat = 0 from rfl] at hx152_5); (try rw [show 0 * 9 = 0 from rfl] at hx152_5); (try rw [Addr.add_zero'] at hx152_5); (try rw [show ((0 : Int)).toNat = 0 from rfl] at hx152_6); (try rw [show 0 * 9 = 0 from rfl] at hx152_6); (try rw [Addr.add_zero'] at hx152_6); (try rw [show ((0 : Int)).toNat = 0 from rfl] at hx152_7); (try rw [show 0 * 9 = 0 from rfl] at hx152_7); (try rw [Addr.add_zero'] at hx152_7); (try rw [show ((0 : Int)).toNat = 0 from rfl] at hx152_8); (try rw [show 0 * 9 = 0 from rfl] at hx152_8); (try rw [Addr.add_zero'] at hx152_8); replace p152 := eq_true p152; replace q152 := eq_true q152) | (go_at_call 72; (with_reducible refine (doc_Doc_Right.calls k _ _ t149 true _ ?side1 ?side2 A5.out).mono ?_); (case side1 => repeat (first | exact (Kd.R_reads' HO151.out).2.2 | (with_reducible refine Kd.C_alloc ?_ _) | (with_reducible refine Kd.C_drewN ?_ _) | (with_reducible refine Kd.C_drew ?_))); (case side2 => exact (Kd.R_reads' HO151.out).2.1); rintro e w80 ⟨rfl, hb⟩; have n0_ := Aside0.mk (Kd.R_below (by (with_reducible repeat (first | apply Kd.R_alloc | apply Kd.R_drewN | apply Kd.R_drew)); exact HO148.out) hb); have n1_ := Aside0.mk (Kd.R_below (by (with_reducible repeat (first | apply Kd.R_alloc | apply Kd.R_drewN | apply Kd.R_drew)); exact HO151.out) hb); have n2_ := Aside0.mk (below_step (by repeat (first | (with_reducible first | exact HB.out | apply below_alloc | apply pw_below_drewN | apply below_drew1) | exact HB.out)) hb); clear HO148; clear HO151; clear HB; have HO148 := n0_; have HO151 := n1_; have HB := n2_; clear n0_ n1_ n2_; (try clear hb); (try clear hb2); (try clear hk); (try clear hi)) | ((with_reducible refine gate_dst (N := 22) rfl ?_); (try (refine gate_guard (by rfl) ?_; dsimp only)); refine Kd.R_lit Kd.string _ 9 ?hg (N := 22) ?hd (xs := ([(⟨#[97, 10, 61, 61, 61, 61, 61, 61, 61, 61, 10]⟩ : ByteArray)] : List ByteArray)) (inner := [.string (⟨#[97, 10, 61, 61, 61, 61, 61, 61, 61, 61, 10]⟩ : ByteArray)]) (ok := fun _ => True) (okp := fun _ => True) ?hr ?hp (fun _ hk => hk) trivial (Below.refl _ _) (Nat.le_refl _) (by simp) ?_; (case hd => rfl); (case hg => rfl); (case hr => first | (go_simp; done) | (go_simp; rfl)); (case hp => exact (Reps.one (show Kd.M Kd.string _ _ _ (⟨#[97, 10, 61, 61, 61, 61, 61, 61, 61, 61, 10]⟩ : ByteArray) [.string (⟨#[97, 10, 61, 61, 61, 61, 61, 61, 61, 61, 10]⟩ : ByteArray)] from rfl) (Reps.none _ _))); intro v155 w81 ho82 hb hg_ hnew_; clear hg_ hnew_; (first | rw [← Ny154.out] at ho82 | (simp only [Int.reduceToNat] at ho82; rw [← Ny154.out] at ho82)); have n0_ := Aside0.mk (Kd.R_below (by (with_reducible repeat (first | apply Kd.R_alloc | apply Kd.R_drewN | apply Kd.R_drew)); exact HO148.out) hb); have n1_ := Aside0.mk (Kd.R_below (by (with_reducible repeat (first | apply Kd.R_alloc | apply Kd.R_drewN | apply Kd.R_drew)); exact HO151.out) hb); have n2_ := Aside0.mk (Kd.R_lower ho82 (below_size (by repeat (first | (with_reducible first | exact HB.out | apply below_alloc | apply pw_below_drewN | apply below_drew1) | exact HB.out)))); have n3_ := Aside0.mk (below_step (by repeat (first | (with_reducible first | exact HB.out | apply below_alloc | apply pw_below_drewN | apply below_drew1) | exact HB.out)) hb); clear HO148; clear HO151; clear HB; have HO148 := n0_; have HO151 := n1_; have HO156 := n2_; have HB := n3_; clear n0_ n1_ n2_ n3_; clear hb ho82; obtain ⟨Ao83, co83, eo83⟩ := Kd.R_slice HO156.out; subst eo83) | (go_at_call 19; (with_reducible refine (doc_Width.calls k 7 _ _ y154 t157 _ ?side1 ?side2 A7.out).mono ?_); (case side1 => repeat (first | exact (Kd.R_reads' HO156.out).2.2 | (with_reducible refine Kd.C_alloc ?_ _) | (with_reducible refine Kd.C_drewN ?_ _) | (with_reducible refine Kd.C_drew ?_))); (case side2 => exact (Kd.R_reads' HO156.out).2.1); rintro e w84 ⟨rfl, hb⟩; have n0_ := Aside0.mk (Kd.R_below (by (with_reducible repeat (first | apply Kd.R_alloc | apply Kd.R_drewN | apply Kd.R_drew)); exact HO148.out) hb); have n1_ := Aside0.mk (Kd.R_below (by (with_reducible repeat (first | apply Kd.R_alloc | apply Kd.R_drewN | apply Kd.R_drew)); exact HO151.out) hb); have n2_ := Aside0.mk (Kd.R_below (by (with_reducible repeat (first | apply Kd.R_alloc | apply Kd.R_drewN | apply Kd.R_drew)); exact HO156.out) hb); have n3_ := Aside0.mk (below_step (by repeat (first | (with_reducible first | exact HB.out | apply below_alloc | apply pw_below_drewN | apply below_drew1) | exact HB.out)) hb); clear HO148; clear HO151; clear HO156; clear HB; have HO148 := n0_; have HO151 := n1_; have HO156 := n2_; have HB := n3_; clear n0_ n1_ n2_ n3_; (try clear hb); (try clear hb2); (try clear hk); (try clear hi)))
            go_ret
            exact ⟨by first | rfl | (simp [errW_none, errW_some] <;> rfl) | (simp [*, errW_none, errW_some] <;> rfl), by repeat (first | (with_reducible first | exact HB.out | apply below_alloc | apply pw_below_drewN | apply below_drew1) | exact HB.out)⟩
        · replace c6 := Bool.eq_false_iff.mpr c6
          subst c6
          have H1 : (some false) = some r := by rw [if_neg (show ¬ (false = true) by decide)] at H; exact H
          clear H
          have H := H1
          clear H1
          obtain rfl := Option.some.inj H
          go_enter Try.func20, Try.ntmps20
          go_wp2_with (first | ((with_reducible refine gate_dst (N := 5) rfl ?_); (try (refine gate_guard (by rfl) ?_; dsimp only)); refine Kd.R_lit k106 _ 106 ?hg (N := 5) ?hd (xs := ([(⟨(⟨(⟨#[]⟩ : ByteArray), (⟨#[]⟩ : ByteArray), (⟨#[]⟩ : ByteArray)⟩ : S84), false, (⟨#[97, 10]⟩ : ByteArray), (⟨#[]⟩ : ByteArray), (⟨#[]⟩ : ByteArray), (⟨#[]⟩ : ByteArray), false⟩ : S106), (⟨(⟨(⟨#[]⟩ : ByteArray), (⟨#[]⟩ : ByteArray), (⟨#[]⟩ : ByteArray)⟩ : S84), false, (⟨#[]⟩ : ByteArray), (⟨#[]⟩ : ByteArray), (⟨#[]⟩ : ByteArray), (⟨#[]⟩ : ByteArray), false⟩ : S106), (⟨(⟨(⟨#[]⟩ : ByteArray), (⟨#[]⟩ : ByteArray), (⟨#[]⟩ : ByteArray)⟩ : S84), false, (⟨#[98]⟩ : ByteArray), (⟨#[]⟩ : ByteArray), (⟨#[]⟩ : ByteArray), (⟨#[]⟩ : ByteArray), false⟩ : S106)] : List (S106))) (inner := [.string (⟨#[]⟩ : ByteArray), .string (⟨#[]⟩ : ByteArray), .string (⟨#[]⟩ : ByteArray), .bool false, .string (⟨#[97, 10]⟩ : ByteArray), .string (⟨#[]⟩ : ByteArray), .string (⟨#[]⟩ : ByteArray), .string (⟨#[]⟩ : ByteArray), .bool false, .string (⟨#[]⟩ : ByteArray), .string (⟨#[]⟩ : ByteArray), .string (⟨#[]⟩ : ByteArray), .bool false, .string (⟨#[]⟩ : ByteArray), .string (⟨#[]⟩ : ByteArray), .string (⟨#[]⟩ : ByteArray), .string (⟨#[]⟩ : ByteArray), .bool false, .string (⟨#[]⟩ : ByteArray), .string (⟨#[]⟩ : ByteArray), .string (⟨#[]⟩ : ByteArray), .bool false, .string (⟨#[98]⟩ : ByteArray), .string (⟨#[]⟩ : ByteArray), .string (⟨#[]⟩ : ByteArray), .string (⟨#[]⟩ : ByteArray), .bool false]) (ok := fun _ => True) (okp := fun _ => True) ?hr ?hp (fun _ hk => hk) trivial (Below.refl _ _) (Nat.le_refl _) (by simp) ?_; (case hd => rfl); (case hg => rfl); (case hr => first | (go_simp; done) | (go_simp; rfl)); (case hp => exact (Reps.c9 (show Kd.M k106 _ _ _ (⟨(⟨(⟨#[]⟩ : ByteArray), (⟨#[]⟩ : ByteArray), (⟨#[]⟩ : ByteArray)⟩ : S84), false, (⟨#[97, 10]⟩ : ByteArray), (⟨#[]⟩ : ByteArray), (⟨#[]⟩ : ByteArray), (⟨#[]⟩ : ByteArray), false⟩ : S106) [.string (⟨#[]⟩ : ByteArray), .string (⟨#[]⟩ : ByteArray), .string (⟨#[]⟩ : ByteArray), .bool false, .string (⟨#[97, 10]⟩ : ByteArray), .string (⟨#[]⟩ : ByteArray), .string (⟨#[]⟩ : ByteArray), .string (⟨#[]⟩ : ByteArray), .bool false] from (k106_mkM _ _ _ (⟨(⟨(⟨#[]⟩ : ByteArray), (⟨#[]⟩ : ByteArray), (⟨#[]⟩ : ByteArray)⟩ : S84), false, (⟨#[97, 10]⟩ : ByteArray), (⟨#[]⟩ : ByteArray), (⟨#[]⟩ : ByteArray), (⟨#[]⟩ : ByteArray), false⟩ : S106) )) (Reps.c9 (show Kd.M k106 _ _ _ (⟨(⟨(⟨#[]⟩ : ByteArray), (⟨#[]⟩ : ByteArray), (⟨#[]⟩ : ByteArray)⟩ : S84), false, (⟨#[]⟩ : ByteArray), (⟨#[]⟩ : ByteArray), (⟨#[]⟩ : ByteArray), (⟨#[]⟩ : ByteArray), false⟩ : S106) [.string (⟨#[]⟩ : ByteArray), .string (⟨#[]⟩ : ByteArray), .string (⟨#[]⟩ : ByteArray), .bool false, .string (⟨#[]⟩ : ByteArray), .string (⟨#[]⟩ : ByteArray), .string (⟨#[]⟩ : ByteArray), .string (⟨#[]⟩ : ByteArray), .bool false] from (k106_mkM _ _ _ (⟨(⟨(⟨#[]⟩ : ByteArray), (⟨#[]⟩ : ByteArray), (⟨#[]⟩ : ByteArray)⟩ : S84), false, (⟨#[]⟩ : ByteArray), (⟨#[]⟩ : ByteArray), (⟨#[]⟩ : ByteArray), (⟨#[]⟩ : ByteArray), false⟩ : S106) )) (Reps.c9 (show Kd.M k106 _ _ _ (⟨(⟨(⟨#[]⟩ : ByteArray), (⟨#[]⟩ : ByteArray), (⟨#[]⟩ : ByteArray)⟩ : S84), false, (⟨#[98]⟩ : ByteArray), (⟨#[]⟩ : ByteArray), (⟨#[]⟩ : ByteArray), (⟨#[]⟩ : ByteArray), false⟩ : S106) [.string (⟨#[]⟩ : ByteArray), .string (⟨#[]⟩ : ByteArray), .string (⟨#[]⟩ : ByteArray), .bool false, .string (⟨#[98]⟩ : ByteArray), .string (⟨#[]⟩ : ByteArray), .string (⟨#[]⟩ : ByteArray), .string (⟨#[]⟩ : ByteArray), .bool false] from (k106_mkM _ _ _ (⟨(⟨(⟨#[]⟩ : ByteArray), (⟨#[]⟩ : ByteArray), (⟨#[]⟩ : ByteArray)⟩ : S84), false, (⟨#[98]⟩ : ByteArray), (⟨#[]⟩ : ByteArray), (⟨#[]⟩ : ByteArray), (⟨#[]⟩ : ByteArray), false⟩ : S106) )) (Reps.none _ _))))); intro v147 w85 ho86 hb hg_ hnew_; clear hg_ hnew_; (first | rw [← Ny146.out] at ho86 | (simp only [Int.reduceToNat] at ho86; rw [← Ny146.out] at ho86)); have n0_ := Aside0.mk (Kd.R_lower ho86 (below_size (by repeat (first | (with_reducible first | exact HB.out | apply below_alloc | apply pw_below_drewN | apply below_drew1) | exact HB.out)))); have n1_ := Aside0.mk (below_step (by repeat (first | (with_reducible first | exact HB.out | apply below_alloc | apply pw_below_drewN | apply below_drew1) | exact HB.out)) hb); clear HB; have HO148 := n0_; have HB := n1_; clear n0_ n1_; clear hb ho86; obtain ⟨Ao87, co87, eo87⟩ := Kd.R_slice HO148.out; subst eo87) | ((with_reducible refine gate_callee (f := 24) rfl ?_); refine goesL_ (some 6) rfl rfl Try.func24 (by kernel_rfl) rfl #[.slice Ao87 y146.length co87] rfl (by (try simp only [List.map_toArray, List.map_cons, List.map_nil]); first | done | rfl | (simp only [List.length_drop, List.length_take]; rfl)) ?_; (with_reducible refine (doc_Of.calls k _ _ y146 t149 _ ?side1 ?side2 A1.out).mono ?_); (case side1 => repeat (first | exact (Kd.R_reads' HO148.out).2.2 | (with_reducible refine Kd.C_alloc ?_ _) | (with_reducible refine Kd.C_drewN ?_ _) | (with_reducible refine Kd.C_drew ?_))); (case side2 => exact (Kd.R_reads' HO148.out).2.1); rintro e w88 ⟨v150, rfl, ho0, hb⟩; refine ⟨_, rfl, ?_⟩; have n0_ := Aside0.mk (Kd.R_elder' (by (with_reducible repeat (first | apply Kd.R_alloc | apply Kd.R_drewN | apply Kd.R_drew)); exact HO148.out) (Kd.R_base ho0) hb); have n1_ := Aside0.mk (Kd.R_lower (Kd.R_new' ho0 (Kd.R_lt (by (with_reducible repeat (first | apply Kd.R_alloc | apply Kd.R_drewN | apply Kd.R_drew)); exact HO148.out))) (below_size (by repeat (first | (with_reducible first | exact HB.out | apply below_alloc | apply pw_below_drewN | apply below_drew1) | exact HB.out)))); have n2_ := Aside0.mk (below_step (by repeat (first | (with_reducible first | exact HB.out | apply below_alloc | apply pw_below_drewN | apply below_drew1) | exact HB.out)) hb); clear HO148; clear HB; have HO148 := n0_; have HO151 := n1_; have HB := n2_; clear n0_ n1_ n2_; (try clear hb); (try clear hb2); (try clear hk); (try clear hi); (try clear ho0); obtain ⟨Ao89, co89, eo89⟩ := Kd.R_slice HO151.out; subst eo89; have p152 : 0 ≤ (0 : Int) := (by omega); have q152 : 0 < (t149.length : Int) := of_decide_eq_true (by first | (with_reducible assumption) | assumption); obtain ⟨ad152, e152, hx152_0, hx152_1, hx152_2, hx152_3, hx152_4, hx152_5, hx152_6, hx152_7, hx152_8⟩ := at_T106 (Kd.R_reads' HO151.out).2.2 0 p152 q152; cases e152; have qi152 : (0 < t149.length) = True := eq_true (by omega); (try rw [show ((0 : Int)).toNat = 0 from rfl] at hx152_0); (try rw [show 0 * 9 = 0 from rfl] at hx152_0); (try rw [Addr.add_zero'] at hx152_0); (try rw [show ((0 : Int)).toNat = 0 from rfl] at hx152_1); (try rw [show 0 * 9 = 0 from rfl] at hx152_1); (try rw [Addr.add_zero'] at hx152_1); (try rw [show ((0 : Int)).toNat = 0 from rfl] at hx152_2); (try rw [show 0 * 9 = 0 from rfl] at hx152_2); (try rw [Addr.add_zero'] at hx152_2); (try rw [show ((0 : Int)).toNat = 0 from rfl] at hx152_3); (try rw [show 0 * 9 = 0 from rfl] at hx152_3); (try rw [Addr.add_zero'] at hx152_3); (try rw [show ((0 : Int)).toNat = 0 from rfl] at hx152_4); (try rw [show 0 * 9 = 0 from rfl] at hx152_4); (try rw [Addr.add_zero'] at hx152_4); (try rw [show ((0 : Int)).toNat = 0 from rfl] at hx152_5); (try rw [show 0 * 9 = 0 from rfl] at hx152_5); (try rw [Addr.add_zero'] at hx152_5); (try rw [show ((0 : Int)).toNat = 0 from rfl] at hx152_6); (try rw [show 0 * 9 = 0 from rfl] at hx152_6); (try rw [Addr.add_zero'] at hx152_6); (try rw [show ((0 : Int)).toNat = 0 from rfl] at hx152_7); (try rw [show 0 * 9 = 0 from rfl] at hx152_7); (try rw [Addr.add_zero'] at hx152_7); (try rw [show ((0 : Int)).toNat = 0 from rfl] at hx152_8); (try rw [show 0 * 9 = 0 from rfl] at hx152_8); (try rw [Addr.add_zero'] at hx152_8); replace p152 := eq_true p152; replace q152 := eq_true q152) | (go_at_call 72; (with_reducible refine (doc_Doc_Right.calls k _ _ t149 false _ ?side1 ?side2 A5.out).mono ?_); (case side1 => repeat (first | exact (Kd.R_reads' HO151.out).2.2 | (with_reducible refine Kd.C_alloc ?_ _) | (with_reducible refine Kd.C_drewN ?_ _) | (with_reducible refine Kd.C_drew ?_))); (case side2 => exact (Kd.R_reads' HO151.out).2.1); rintro e w90 ⟨rfl, hb⟩; have n0_ := Aside0.mk (Kd.R_below (by (with_reducible repeat (first | apply Kd.R_alloc | apply Kd.R_drewN | apply Kd.R_drew)); exact HO148.out) hb); have n1_ := Aside0.mk (Kd.R_below (by (with_reducible repeat (first | apply Kd.R_alloc | apply Kd.R_drewN | apply Kd.R_drew)); exact HO151.out) hb); have n2_ := Aside0.mk (below_step (by repeat (first | (with_reducible first | exact HB.out | apply below_alloc | apply pw_below_drewN | apply below_drew1) | exact HB.out)) hb); clear HO148; clear HO151; clear HB; have HO148 := n0_; have HO151 := n1_; have HB := n2_; clear n0_ n1_ n2_; (try clear hb); (try clear hb2); (try clear hk); (try clear hi)))
          go_ret
          exact ⟨by first | rfl | (simp [errW_none, errW_some] <;> rfl) | (simp [*, errW_none, errW_some] <;> rfl), by repeat (first | (with_reducible first | exact HB.out | apply below_alloc | apply pw_below_drewN | apply below_drew1) | exact HB.out)⟩
      · rw [if_neg c4] at H
        have c4b0 : (((rd_T106 t149 0).f2).toList == ([97, 10, 98] : List UInt8)) = false := beq_eq_false_iff_ne.mpr c4
        have c4b1 : (((rd_T106 t149 0).f2).toList != ([97, 10, 98] : List UInt8)) = true := bne_iff_ne.mpr c4
        obtain rfl := Option.some.inj H
        go_enter Try.func20, Try.ntmps20
        go_wp2_with (first | ((with_reducible refine gate_dst (N := 5) rfl ?_); (try (refine gate_guard (by rfl) ?_; dsimp only)); refine Kd.R_lit k106 _ 106 ?hg (N := 5) ?hd (xs := ([(⟨(⟨(⟨#[]⟩ : ByteArray), (⟨#[]⟩ : ByteArray), (⟨#[]⟩ : ByteArray)⟩ : S84), false, (⟨#[97, 10]⟩ : ByteArray), (⟨#[]⟩ : ByteArray), (⟨#[]⟩ : ByteArray), (⟨#[]⟩ : ByteArray), false⟩ : S106), (⟨(⟨(⟨#[]⟩ : ByteArray), (⟨#[]⟩ : ByteArray), (⟨#[]⟩ : ByteArray)⟩ : S84), false, (⟨#[]⟩ : ByteArray), (⟨#[]⟩ : ByteArray), (⟨#[]⟩ : ByteArray), (⟨#[]⟩ : ByteArray), false⟩ : S106), (⟨(⟨(⟨#[]⟩ : ByteArray), (⟨#[]⟩ : ByteArray), (⟨#[]⟩ : ByteArray)⟩ : S84), false, (⟨#[98]⟩ : ByteArray), (⟨#[]⟩ : ByteArray), (⟨#[]⟩ : ByteArray), (⟨#[]⟩ : ByteArray), false⟩ : S106)] : List (S106))) (inner := [.string (⟨#[]⟩ : ByteArray), .string (⟨#[]⟩ : ByteArray), .string (⟨#[]⟩ : ByteArray), .bool false, .string (⟨#[97, 10]⟩ : ByteArray), .string (⟨#[]⟩ : ByteArray), .string (⟨#[]⟩ : ByteArray), .string (⟨#[]⟩ : ByteArray), .bool false, .string (⟨#[]⟩ : ByteArray), .string (⟨#[]⟩ : ByteArray), .string (⟨#[]⟩ : ByteArray), .bool false, .string (⟨#[]⟩ : ByteArray), .string (⟨#[]⟩ : ByteArray), .string (⟨#[]⟩ : ByteArray), .string (⟨#[]⟩ : ByteArray), .bool false, .string (⟨#[]⟩ : ByteArray), .string (⟨#[]⟩ : ByteArray), .string (⟨#[]⟩ : ByteArray), .bool false, .string (⟨#[98]⟩ : ByteArray), .string (⟨#[]⟩ : ByteArray), .string (⟨#[]⟩ : ByteArray), .string (⟨#[]⟩ : ByteArray), .bool false]) (ok := fun _ => True) (okp := fun _ => True) ?hr ?hp (fun _ hk => hk) trivial (Below.refl _ _) (Nat.le_refl _) (by simp) ?_; (case hd => rfl); (case hg => rfl); (case hr => first | (go_simp; done) | (go_simp; rfl)); (case hp => exact (Reps.c9 (show Kd.M k106 _ _ _ (⟨(⟨(⟨#[]⟩ : ByteArray), (⟨#[]⟩ : ByteArray), (⟨#[]⟩ : ByteArray)⟩ : S84), false, (⟨#[97, 10]⟩ : ByteArray), (⟨#[]⟩ : ByteArray), (⟨#[]⟩ : ByteArray), (⟨#[]⟩ : ByteArray), false⟩ : S106) [.string (⟨#[]⟩ : ByteArray), .string (⟨#[]⟩ : ByteArray), .string (⟨#[]⟩ : ByteArray), .bool false, .string (⟨#[97, 10]⟩ : ByteArray), .string (⟨#[]⟩ : ByteArray), .string (⟨#[]⟩ : ByteArray), .string (⟨#[]⟩ : ByteArray), .bool false] from (k106_mkM _ _ _ (⟨(⟨(⟨#[]⟩ : ByteArray), (⟨#[]⟩ : ByteArray), (⟨#[]⟩ : ByteArray)⟩ : S84), false, (⟨#[97, 10]⟩ : ByteArray), (⟨#[]⟩ : ByteArray), (⟨#[]⟩ : ByteArray), (⟨#[]⟩ : ByteArray), false⟩ : S106) )) (Reps.c9 (show Kd.M k106 _ _ _ (⟨(⟨(⟨#[]⟩ : ByteArray), (⟨#[]⟩ : ByteArray), (⟨#[]⟩ : ByteArray)⟩ : S84), false, (⟨#[]⟩ : ByteArray), (⟨#[]⟩ : ByteArray), (⟨#[]⟩ : ByteArray), (⟨#[]⟩ : ByteArray), false⟩ : S106) [.string (⟨#[]⟩ : ByteArray), .string (⟨#[]⟩ : ByteArray), .string (⟨#[]⟩ : ByteArray), .bool false, .string (⟨#[]⟩ : ByteArray), .string (⟨#[]⟩ : ByteArray), .string (⟨#[]⟩ : ByteArray), .string (⟨#[]⟩ : ByteArray), .bool false] from (k106_mkM _ _ _ (⟨(⟨(⟨#[]⟩ : ByteArray), (⟨#[]⟩ : ByteArray), (⟨#[]⟩ : ByteArray)⟩ : S84), false, (⟨#[]⟩ : ByteArray), (⟨#[]⟩ : ByteArray), (⟨#[]⟩ : ByteArray), (⟨#[]⟩ : ByteArray), false⟩ : S106) )) (Reps.c9 (show Kd.M k106 _ _ _ (⟨(⟨(⟨#[]⟩ : ByteArray), (⟨#[]⟩ : ByteArray), (⟨#[]⟩ : ByteArray)⟩ : S84), false, (⟨#[98]⟩ : ByteArray), (⟨#[]⟩ : ByteArray), (⟨#[]⟩ : ByteArray), (⟨#[]⟩ : ByteArray), false⟩ : S106) [.string (⟨#[]⟩ : ByteArray), .string (⟨#[]⟩ : ByteArray), .string (⟨#[]⟩ : ByteArray), .bool false, .string (⟨#[98]⟩ : ByteArray), .string (⟨#[]⟩ : ByteArray), .string (⟨#[]⟩ : ByteArray), .string (⟨#[]⟩ : ByteArray), .bool false] from (k106_mkM _ _ _ (⟨(⟨(⟨#[]⟩ : ByteArray), (⟨#[]⟩ : ByteArray), (⟨#[]⟩ : ByteArray)⟩ : S84), false, (⟨#[98]⟩ : ByteArray), (⟨#[]⟩ : ByteArray), (⟨#[]⟩ : ByteArray), (⟨#[]⟩ : ByteArray), false⟩ : S106) )) (Reps.none _ _))))); intro v147 w91 ho92 hb hg_ hnew_; clear hg_ hnew_; (first | rw [← Ny146.out] at ho92 | (simp only [Int.reduceToNat] at ho92; rw [← Ny146.out] at ho92)); have n0_ := Aside0.mk (Kd.R_lower ho92 (below_size (by repeat (first | (with_reducible first | exact HB.out | apply below_alloc | apply pw_below_drewN | apply below_drew1) | exact HB.out)))); have n1_ := Aside0.mk (below_step (by repeat (first | (with_reducible first | exact HB.out | apply below_alloc | apply pw_below_drewN | apply below_drew1) | exact HB.out)) hb); clear HB; have HO148 := n0_; have HB := n1_; clear n0_ n1_; clear hb ho92; obtain ⟨Ao93, co93, eo93⟩ := Kd.R_slice HO148.out; subst eo93) | ((with_reducible refine gate_callee (f := 24) rfl ?_); refine goesL_ (some 6) rfl rfl Try.func24 (by kernel_rfl) rfl #[.slice Ao93 y146.length co93] rfl (by (try simp only [List.map_toArray, List.map_cons, List.map_nil]); first | done | rfl | (simp only [List.length_drop, List.length_take]; rfl)) ?_; (with_reducible refine (doc_Of.calls k _ _ y146 t149 _ ?side1 ?side2 A1.out).mono ?_); (case side1 => repeat (first | exact (Kd.R_reads' HO148.out).2.2 | (with_reducible refine Kd.C_alloc ?_ _) | (with_reducible refine Kd.C_drewN ?_ _) | (with_reducible refine Kd.C_drew ?_))); (case side2 => exact (Kd.R_reads' HO148.out).2.1); rintro e w94 ⟨v150, rfl, ho0, hb⟩; refine ⟨_, rfl, ?_⟩; have n0_ := Aside0.mk (Kd.R_elder' (by (with_reducible repeat (first | apply Kd.R_alloc | apply Kd.R_drewN | apply Kd.R_drew)); exact HO148.out) (Kd.R_base ho0) hb); have n1_ := Aside0.mk (Kd.R_lower (Kd.R_new' ho0 (Kd.R_lt (by (with_reducible repeat (first | apply Kd.R_alloc | apply Kd.R_drewN | apply Kd.R_drew)); exact HO148.out))) (below_size (by repeat (first | (with_reducible first | exact HB.out | apply below_alloc | apply pw_below_drewN | apply below_drew1) | exact HB.out)))); have n2_ := Aside0.mk (below_step (by repeat (first | (with_reducible first | exact HB.out | apply below_alloc | apply pw_below_drewN | apply below_drew1) | exact HB.out)) hb); clear HO148; clear HB; have HO148 := n0_; have HO151 := n1_; have HB := n2_; clear n0_ n1_ n2_; (try clear hb); (try clear hb2); (try clear hk); (try clear hi); (try clear ho0); obtain ⟨Ao95, co95, eo95⟩ := Kd.R_slice HO151.out; subst eo95; have p152 : 0 ≤ (0 : Int) := (by omega); have q152 : 0 < (t149.length : Int) := of_decide_eq_true (by first | (with_reducible assumption) | assumption); obtain ⟨ad152, e152, hx152_0, hx152_1, hx152_2, hx152_3, hx152_4, hx152_5, hx152_6, hx152_7, hx152_8⟩ := at_T106 (Kd.R_reads' HO151.out).2.2 0 p152 q152; cases e152; have qi152 : (0 < t149.length) = True := eq_true (by omega); (try rw [show ((0 : Int)).toNat = 0 from rfl] at hx152_0); (try rw [show 0 * 9 = 0 from rfl] at hx152_0); (try rw [Addr.add_zero'] at hx152_0); (try rw [show ((0 : Int)).toNat = 0 from rfl] at hx152_1); (try rw [show 0 * 9 = 0 from rfl] at hx152_1); (try rw [Addr.add_zero'] at hx152_1); (try rw [show ((0 : Int)).toNat = 0 from rfl] at hx152_2); (try rw [show 0 * 9 = 0 from rfl] at hx152_2); (try rw [Addr.add_zero'] at hx152_2); (try rw [show ((0 : Int)).toNat = 0 from rfl] at hx152_3); (try rw [show 0 * 9 = 0 from rfl] at hx152_3); (try rw [Addr.add_zero'] at hx152_3); (try rw [show ((0 : Int)).toNat = 0 from rfl] at hx152_4); (try rw [show 0 * 9 = 0 from rfl] at hx152_4); (try rw [Addr.add_zero'] at hx152_4); (try rw [show ((0 : Int)).toNat = 0 from rfl] at hx152_5); (try rw [show 0 * 9 = 0 from rfl] at hx152_5); (try rw [Addr.add_zero'] at hx152_5); (try rw [show ((0 : Int)).toNat = 0 from rfl] at hx152_6); (try rw [show 0 * 9 = 0 from rfl] at hx152_6); (try rw [Addr.add_zero'] at hx152_6); (try rw [show ((0 : Int)).toNat = 0 from rfl] at hx152_7); (try rw [show 0 * 9 = 0 from rfl] at hx152_7); (try rw [Addr.add_zero'] at hx152_7); (try rw [show ((0 : Int)).toNat = 0 from rfl] at hx152_8); (try rw [show 0 * 9 = 0 from rfl] at hx152_8); (try rw [Addr.add_zero'] at hx152_8); replace p152 := eq_true p152; replace q152 := eq_true q152))
        go_ret
        exact ⟨by first | rfl | (simp [errW_none, errW_some] <;> rfl) | (simp [*, errW_none, errW_some] <;> rfl), by repeat (first | (with_reducible first | exact HB.out | apply below_alloc | apply pw_below_drewN | apply below_drew1) | exact HB.out)⟩
    · rw [if_neg c3] at H
      exact absurd H (by simp)
  · rw [if_neg c2] at H
    have c2b0 : ((t149.length : Int) == 1) = false := beq_eq_false_iff_ne.mpr c2
    have c2b1 : ((t149.length : Int) != 1) = true := bne_iff_ne.mpr c2
    obtain rfl := Option.some.inj H
    go_enter Try.func20, Try.ntmps20
    go_wp2_with (first | ((with_reducible refine gate_dst (N := 5) rfl ?_); (try (refine gate_guard (by rfl) ?_; dsimp only)); refine Kd.R_lit k106 _ 106 ?hg (N := 5) ?hd (xs := ([(⟨(⟨(⟨#[]⟩ : ByteArray), (⟨#[]⟩ : ByteArray), (⟨#[]⟩ : ByteArray)⟩ : S84), false, (⟨#[97, 10]⟩ : ByteArray), (⟨#[]⟩ : ByteArray), (⟨#[]⟩ : ByteArray), (⟨#[]⟩ : ByteArray), false⟩ : S106), (⟨(⟨(⟨#[]⟩ : ByteArray), (⟨#[]⟩ : ByteArray), (⟨#[]⟩ : ByteArray)⟩ : S84), false, (⟨#[]⟩ : ByteArray), (⟨#[]⟩ : ByteArray), (⟨#[]⟩ : ByteArray), (⟨#[]⟩ : ByteArray), false⟩ : S106), (⟨(⟨(⟨#[]⟩ : ByteArray), (⟨#[]⟩ : ByteArray), (⟨#[]⟩ : ByteArray)⟩ : S84), false, (⟨#[98]⟩ : ByteArray), (⟨#[]⟩ : ByteArray), (⟨#[]⟩ : ByteArray), (⟨#[]⟩ : ByteArray), false⟩ : S106)] : List (S106))) (inner := [.string (⟨#[]⟩ : ByteArray), .string (⟨#[]⟩ : ByteArray), .string (⟨#[]⟩ : ByteArray), .bool false, .string (⟨#[97, 10]⟩ : ByteArray), .string (⟨#[]⟩ : ByteArray), .string (⟨#[]⟩ : ByteArray), .string (⟨#[]⟩ : ByteArray), .bool false, .string (⟨#[]⟩ : ByteArray), .string (⟨#[]⟩ : ByteArray), .string (⟨#[]⟩ : ByteArray), .bool false, .string (⟨#[]⟩ : ByteArray), .string (⟨#[]⟩ : ByteArray), .string (⟨#[]⟩ : ByteArray), .string (⟨#[]⟩ : ByteArray), .bool false, .string (⟨#[]⟩ : ByteArray), .string (⟨#[]⟩ : ByteArray), .string (⟨#[]⟩ : ByteArray), .bool false, .string (⟨#[98]⟩ : ByteArray), .string (⟨#[]⟩ : ByteArray), .string (⟨#[]⟩ : ByteArray), .string (⟨#[]⟩ : ByteArray), .bool false]) (ok := fun _ => True) (okp := fun _ => True) ?hr ?hp (fun _ hk => hk) trivial (Below.refl _ _) (Nat.le_refl _) (by simp) ?_; (case hd => rfl); (case hg => rfl); (case hr => first | (go_simp; done) | (go_simp; rfl)); (case hp => exact (Reps.c9 (show Kd.M k106 _ _ _ (⟨(⟨(⟨#[]⟩ : ByteArray), (⟨#[]⟩ : ByteArray), (⟨#[]⟩ : ByteArray)⟩ : S84), false, (⟨#[97, 10]⟩ : ByteArray), (⟨#[]⟩ : ByteArray), (⟨#[]⟩ : ByteArray), (⟨#[]⟩ : ByteArray), false⟩ : S106) [.string (⟨#[]⟩ : ByteArray), .string (⟨#[]⟩ : ByteArray), .string (⟨#[]⟩ : ByteArray), .bool false, .string (⟨#[97, 10]⟩ : ByteArray), .string (⟨#[]⟩ : ByteArray), .string (⟨#[]⟩ : ByteArray), .string (⟨#[]⟩ : ByteArray), .bool false] from (k106_mkM _ _ _ (⟨(⟨(⟨#[]⟩ : ByteArray), (⟨#[]⟩ : ByteArray), (⟨#[]⟩ : ByteArray)⟩ : S84), false, (⟨#[97, 10]⟩ : ByteArray), (⟨#[]⟩ : ByteArray), (⟨#[]⟩ : ByteArray), (⟨#[]⟩ : ByteArray), false⟩ : S106) )) (Reps.c9 (show Kd.M k106 _ _ _ (⟨(⟨(⟨#[]⟩ : ByteArray), (⟨#[]⟩ : ByteArray), (⟨#[]⟩ : ByteArray)⟩ : S84), false, (⟨#[]⟩ : ByteArray), (⟨#[]⟩ : ByteArray), (⟨#[]⟩ : ByteArray), (⟨#[]⟩ : ByteArray), false⟩ : S106) [.string (⟨#[]⟩ : ByteArray), .string (⟨#[]⟩ : ByteArray), .string (⟨#[]⟩ : ByteArray), .bool false, .string (⟨#[]⟩ : ByteArray), .string (⟨#[]⟩ : ByteArray), .string (⟨#[]⟩ : ByteArray), .string (⟨#[]⟩ : ByteArray), .bool false] from (k106_mkM _ _ _ (⟨(⟨(⟨#[]⟩ : ByteArray), (⟨#[]⟩ : ByteArray), (⟨#[]⟩ : ByteArray)⟩ : S84), false, (⟨#[]⟩ : ByteArray), (⟨#[]⟩ : ByteArray), (⟨#[]⟩ : ByteArray), (⟨#[]⟩ : ByteArray), false⟩ : S106) )) (Reps.c9 (show Kd.M k106 _ _ _ (⟨(⟨(⟨#[]⟩ : ByteArray), (⟨#[]⟩ : ByteArray), (⟨#[]⟩ : ByteArray)⟩ : S84), false, (⟨#[98]⟩ : ByteArray), (⟨#[]⟩ : ByteArray), (⟨#[]⟩ : ByteArray), (⟨#[]⟩ : ByteArray), false⟩ : S106) [.string (⟨#[]⟩ : ByteArray), .string (⟨#[]⟩ : ByteArray), .string (⟨#[]⟩ : ByteArray), .bool false, .string (⟨#[98]⟩ : ByteArray), .string (⟨#[]⟩ : ByteArray), .string (⟨#[]⟩ : ByteArray), .string (⟨#[]⟩ : ByteArray), .bool false] from (k106_mkM _ _ _ (⟨(⟨(⟨#[]⟩ : ByteArray), (⟨#[]⟩ : ByteArray), (⟨#[]⟩ : ByteArray)⟩ : S84), false, (⟨#[98]⟩ : ByteArray), (⟨#[]⟩ : ByteArray), (⟨#[]⟩ : ByteArray), (⟨#[]⟩ : ByteArray), false⟩ : S106) )) (Reps.none _ _))))); intro v147 w96 ho97 hb hg_ hnew_; clear hg_ hnew_; (first | rw [← Ny146.out] at ho97 | (simp only [Int.reduceToNat] at ho97; rw [← Ny146.out] at ho97)); have n0_ := Aside0.mk (Kd.R_lower ho97 (below_size (by repeat (first | (with_reducible first | exact HB.out | apply below_alloc | apply pw_below_drewN | apply below_drew1) | exact HB.out)))); have n1_ := Aside0.mk (below_step (by repeat (first | (with_reducible first | exact HB.out | apply below_alloc | apply pw_below_drewN | apply below_drew1) | exact HB.out)) hb); clear HB; have HO148 := n0_; have HB := n1_; clear n0_ n1_; clear hb ho97; obtain ⟨Ao98, co98, eo98⟩ := Kd.R_slice HO148.out; subst eo98) | ((with_reducible refine gate_callee (f := 24) rfl ?_); refine goesL_ (some 6) rfl rfl Try.func24 (by kernel_rfl) rfl #[.slice Ao98 y146.length co98] rfl (by (try simp only [List.map_toArray, List.map_cons, List.map_nil]); first | done | rfl | (simp only [List.length_drop, List.length_take]; rfl)) ?_; (with_reducible refine (doc_Of.calls k _ _ y146 t149 _ ?side1 ?side2 A1.out).mono ?_); (case side1 => repeat (first | exact (Kd.R_reads' HO148.out).2.2 | (with_reducible refine Kd.C_alloc ?_ _) | (with_reducible refine Kd.C_drewN ?_ _) | (with_reducible refine Kd.C_drew ?_))); (case side2 => exact (Kd.R_reads' HO148.out).2.1); rintro e w99 ⟨v150, rfl, ho0, hb⟩; refine ⟨_, rfl, ?_⟩; have n0_ := Aside0.mk (Kd.R_elder' (by (with_reducible repeat (first | apply Kd.R_alloc | apply Kd.R_drewN | apply Kd.R_drew)); exact HO148.out) (Kd.R_base ho0) hb); have n1_ := Aside0.mk (Kd.R_lower (Kd.R_new' ho0 (Kd.R_lt (by (with_reducible repeat (first | apply Kd.R_alloc | apply Kd.R_drewN | apply Kd.R_drew)); exact HO148.out))) (below_size (by repeat (first | (with_reducible first | exact HB.out | apply below_alloc | apply pw_below_drewN | apply below_drew1) | exact HB.out)))); have n2_ := Aside0.mk (below_step (by repeat (first | (with_reducible first | exact HB.out | apply below_alloc | apply pw_below_drewN | apply below_drew1) | exact HB.out)) hb); clear HO148; clear HB; have HO148 := n0_; have HO151 := n1_; have HB := n2_; clear n0_ n1_ n2_; (try clear hb); (try clear hb2); (try clear hk); (try clear hi); (try clear ho0); obtain ⟨Ao100, co100, eo100⟩ := Kd.R_slice HO151.out; subst eo100))
    go_ret
    exact ⟨by first | rfl | (simp [errW_none, errW_some] <;> rfl) | (simp [*, errW_none, errW_some] <;> rfl), by repeat (first | (with_reducible first | exact HB.out | apply below_alloc | apply pw_below_drewN | apply below_drew1) | exact HB.out)⟩
end Go.Proofs.Ytfiamddinkokbaa.F
end

section
set_option linter.unusedVariables false
set_option linter.unusedSimpArgs false
namespace Go.Proofs.Ytfiamddinkokbaa.F
open Go.RowKit Go.Proofs.YtfiamddinkokbaaW.PrintWords Go.Proofs.YtfiamddinkokbaaW.PrintLast Go.Proofs.YtfiamddinkokbaaW.PrintMore
attribute [local go_sem] max2_int min2_int max_two min_two max_three min_three max_four min_four
set_option linter.unusedVariables false
set_option linter.unusedSimpArgs false
def tripartitelaw07_Few.l0 : Nat → List (S109) → Int → Int → Option (Bool)
  | 0, _, _, _ => none
  | k + 1, x0, x3, x4 => if x4 < (x0.length : Int) then (if 0 ≤ x4 then (tripartitelaw07_Few.l0 k x0 (wrap64 ((wrap64 ((wrap64 ((wrap64 ((wrap64 ((wrap64 ((wrap64 (x3 + (((rd_T109 x0 x4).f4).size : Int))) + (((rd_T109 x0 x4).f5).size : Int))) + (((rd_T109 x0 x4).f6).size : Int))) + (((rd_T109 x0 x4).f7).size : Int))) + (((rd_T109 x0 x4).f0).size : Int))) + (((rd_T109 x0 x4).f1).size : Int))) + (((rd_T109 x0 x4).f2).size : Int))) (wrap64 (x4 + 1))) else (none)) else (if (x0.length : Int) ≤ 60 then (some (decide (x3 ≤ 3000))) else (some false))
def tripartitelaw07_Few.f (k : Nat) (l0 : List (S109)) : Option (Bool) := tripartitelaw07_Few.l0 k l0 0 0
theorem tripartitelaw07_Few.mono_l : ∀ k, (∀ y0 y1 y2, LeO (tripartitelaw07_Few.l0 k y0 y1 y2) (tripartitelaw07_Few.l0 (k + 1) y0 y1 y2))
  | 0 => fun _ _ _ r h => by simp [tripartitelaw07_Few.l0] at h
  | k + 1 => by
    have ih0 := tripartitelaw07_Few.mono_l k
    · intro y0 y1 y2
      unfold tripartitelaw07_Few.l0
      repeat' first
      | (with_reducible exact ih0 _ _ _)
      | (with_reducible exact LeO.refl _)
      | (with_reducible exact LeO.none _)
      | (with_reducible refine LeO.ite ?_ ?_)
      | (with_reducible refine LeO.bind ?_ (fun _ => ?_))
      | exact ih0 _ _ _
      | exact LeO.none _
      | refine LeO.ite ?_ ?_
      | refine LeO.bind ?_ (fun _ => ?_)
theorem tripartitelaw07_Few.mono : ∀ a0 k, LeO (tripartitelaw07_Few.f k a0) (tripartitelaw07_Few.f (k + 1) a0) := by
  intro a0 k
  have ih0 := tripartitelaw07_Few.mono_l k
  unfold tripartitelaw07_Few.f
  repeat' first
      | (with_reducible exact ih0 _ _ _)
      | (with_reducible exact LeO.refl _)
      | (with_reducible exact LeO.none _)
      | (with_reducible refine LeO.ite ?_ ?_)
      | (with_reducible refine LeO.bind ?_ (fun _ => ?_))
      | exact ih0 _ _ _
      | exact LeO.none _
      | refine LeO.ite ?_ ?_
      | refine LeO.bind ?_ (fun _ => ?_)
set_option maxHeartbeats 8000000 in
set_option maxRecDepth 100000 in
theorem tripartitelaw07_Few.calls (k : Nat) (A0 : Option Addr) (c0 : Nat) (l0 : List (S109)) (r : Bool) (w : World) (hr0 : Kd.C k109 w A0 l0.length l0) (hc0 : l0.length ≤ c0) (h : tripartitelaw07_Few.f k l0 = some r) :
    Calls Try.prog 22 #[.slice A0 l0.length c0] w fun e w' => e = .returned (.bool r) ∧ Below w.heap.size w w' := by
  have hu109 := Try.underlying109
  have HR0 := Aside0.mk hr0
  have HC0 := Aside0.mk hc0
  clear hr0 hc0
  have HB := Aside0.mk (Below.refl w.heap.size w)
  have H : (tripartitelaw07_Few.l0 k l0 0 0) = some r := h
  clear h
  have H' := Aside0.mk H
  clear H
  go_enter Try.func22, Try.ntmps22
  go_wp2
  go_loopg [3, 4] k (fun kq v3 v4 w' => ∃ (x3_1 : Int) (x4_1 : Int), v3 = .int .i64 x3_1 ∧ v4 = .int .i64 x4_1 ∧ Aside0 (tripartitelaw07_Few.l0 kq l0 x3_1 x4_1 = some r) ∧ Aside0 (kq ≤ k) ∧ Aside0 (Below w.heap.size w w'))
  case atStart => exact ⟨(0), (0), (by first | rfl | (simp; done) | (simp [*]; done)), (by first | rfl | (simp; done) | (simp [*]; done)), H', ⟨Nat.le_refl _⟩, ⟨by repeat (first | (with_reducible first | exact HB.out | apply below_alloc | apply pw_below_drewN | apply below_drew1) | exact HB.out)⟩⟩
  case round =>
    clear H'
    obtain ⟨x3_1, x4_1, rfl, rfl, HA, HK1, HB⟩ := hrel
    cases gk with
    | zero => exact absurd HA.out (by simp [tripartitelaw07_Few.l0])
    | succ k1 =>
      have H := HA.out
      clear HA
      simp only [tripartitelaw07_Few.l0] at H
      by_cases c2 : x4_1 < (l0.length : Int)
      · rw [if_pos c2] at H
        have c2b0 : decide (x4_1 < (l0.length : Int)) = true := decide_eq_true c2
        clear c2
        by_cases c3 : 0 ≤ x4_1
        · rw [if_pos c3] at H
          have c3b0 : decide (0 ≤ x4_1) = true := decide_eq_true c3
          clear c3
          have H' := Aside0.mk H
          clear H
          have p188 : 0 ≤ (x4_1 : Int) := of_decide_eq_true (by first | (with_reducible assumption) | assumption)
          have q188 : x4_1 < (l0.length : Int) := of_decide_eq_true (by first | (with_reducible assumption) | assumption)
          obtain ⟨ad188, e188, hx188_0, hx188_1, hx188_2, hx188_3, hx188_4, hx188_5, hx188_6, hx188_7, hx188_8⟩ := at_T109 HR0.out x4_1 p188 q188
          cases e188
          replace hx188_0 := (HB.out.cell (World.block_lt_of_cell? w _ hx188_0)).trans hx188_0
          replace hx188_1 := (HB.out.cell (World.block_lt_of_cell? w _ hx188_1)).trans hx188_1
          replace hx188_2 := (HB.out.cell (World.block_lt_of_cell? w _ hx188_2)).trans hx188_2
          replace hx188_3 := (HB.out.cell (World.block_lt_of_cell? w _ hx188_3)).trans hx188_3
          replace hx188_4 := (HB.out.cell (World.block_lt_of_cell? w _ hx188_4)).trans hx188_4
          replace hx188_5 := (HB.out.cell (World.block_lt_of_cell? w _ hx188_5)).trans hx188_5
          replace hx188_6 := (HB.out.cell (World.block_lt_of_cell? w _ hx188_6)).trans hx188_6
          replace hx188_7 := (HB.out.cell (World.block_lt_of_cell? w _ hx188_7)).trans hx188_7
          replace hx188_8 := (HB.out.cell (World.block_lt_of_cell? w _ hx188_8)).trans hx188_8
          replace p188 := eq_true p188
          replace q188 := eq_true q188
          go_wp2_with (first | ((with_reducible refine gate_dst (N := 5) rfl ?_); refine box_event ?hg (N := 5) ?hd (cs := #[.string (⟨#[]⟩ : ByteArray), .string (⟨#[]⟩ : ByteArray), .string (⟨#[]⟩ : ByteArray), .bool false, .string (⟨#[]⟩ : ByteArray), .string (⟨#[]⟩ : ByteArray), .string (⟨#[]⟩ : ByteArray), .string (⟨#[]⟩ : ByteArray), .bool false]) (t := 109) ?hr ?_; (case hd => rfl); (case hg => rfl); (case hr => first | (go_simp; done) | (go_simp; rfl)); intro gb189 hg w4 hbox hb; have n0_ := Aside0.mk (below_step (by repeat (first | (with_reducible first | exact HB.out | apply below_alloc | apply pw_below_drewN | apply below_drew1) | exact HB.out)) hb); have n1_ := Aside0.mk (hbox); have n2_ := Aside0.mk ((by rw [hg]; exact (below_size (by repeat (first | (with_reducible first | exact HB.out | apply below_alloc | apply pw_below_drewN | apply below_drew1) | exact HB.out))) : w.heap.size ≤ gb189)); have n3_ := Aside0.mk ((by rw [hg]; exact (below_size (by repeat (first | (with_reducible first | exact HB.out | apply below_alloc | apply pw_below_drewN | apply below_drew1) | exact HB.out))) : w.heap.size ≤ gb189)); clear HB; have HB := n0_; have BK189 := n1_; have GW189 := n2_; have GE189 := n3_; clear n0_ n1_ n2_ n3_; clear hb hbox hg; have hcz5_0 : w4.cell? ⟨gb189, 0, none⟩ = some (.string (⟨#[]⟩ : ByteArray)) := (blk_cell BK189.out 0).trans rfl; have hcz5_1 : w4.cell? ⟨gb189, 1, none⟩ = some (.string (⟨#[]⟩ : ByteArray)) := (blk_cell BK189.out 1).trans rfl; have hcz5_2 : w4.cell? ⟨gb189, 2, none⟩ = some (.string (⟨#[]⟩ : ByteArray)) := (blk_cell BK189.out 2).trans rfl; have hcz5_3 : w4.cell? ⟨gb189, 3, none⟩ = some (.bool false) := (blk_cell BK189.out 3).trans rfl; have hcz5_4 : w4.cell? ⟨gb189, 4, none⟩ = some (.string (⟨#[]⟩ : ByteArray)) := (blk_cell BK189.out 4).trans rfl; have hcz5_5 : w4.cell? ⟨gb189, 5, none⟩ = some (.string (⟨#[]⟩ : ByteArray)) := (blk_cell BK189.out 5).trans rfl; have hcz5_6 : w4.cell? ⟨gb189, 6, none⟩ = some (.string (⟨#[]⟩ : ByteArray)) := (blk_cell BK189.out 6).trans rfl; have hcz5_7 : w4.cell? ⟨gb189, 7, none⟩ = some (.string (⟨#[]⟩ : ByteArray)) := (blk_cell BK189.out 7).trans rfl; have hcz5_8 : w4.cell? ⟨gb189, 8, none⟩ = some (.bool false) := (blk_cell BK189.out 8).trans rfl; have hfz5_0 := blk_frozen BK189.out 0; have hfz5_1 := blk_frozen BK189.out 1; have hfz5_2 := blk_frozen BK189.out 2; have hfz5_3 := blk_frozen BK189.out 3; have hfz5_4 := blk_frozen BK189.out 4; have hfz5_5 := blk_frozen BK189.out 5; have hfz5_6 := blk_frozen BK189.out 6; have hfz5_7 := blk_frozen BK189.out 7; have hfz5_8 := blk_frozen BK189.out 8))
          go_roundg k1
          case measure => have := HK1.out; omega
          case rel => exact ⟨(wrap64 ((wrap64 ((wrap64 ((wrap64 ((wrap64 ((wrap64 ((wrap64 (x3_1 + (((rd_T109 l0 x4_1).f4).size : Int))) + (((rd_T109 l0 x4_1).f5).size : Int))) + (((rd_T109 l0 x4_1).f6).size : Int))) + (((rd_T109 l0 x4_1).f7).size : Int))) + (((rd_T109 l0 x4_1).f0).size : Int))) + (((rd_T109 l0 x4_1).f1).size : Int))) + (((rd_T109 l0 x4_1).f2).size : Int))), (wrap64 (x4_1 + 1)), (by first | rfl | (simp; done) | (simp [*]; done)), (by first | rfl | (simp; done) | (simp [*]; done)), H', ⟨by have := HK1.out; omega⟩, ⟨by repeat (first | (with_reducible first | exact HB.out | apply below_alloc | apply pw_below_drewN | apply below_drew1 | refine below_set ?_ GE189.out) | exact HB.out)⟩⟩
        · rw [if_neg c3] at H
          exact absurd H (by simp)
      · rw [if_neg c2] at H
        have c2b0 : decide (x4_1 < (l0.length : Int)) = false := decide_eq_false c2
        clear c2
        by_cases c6 : (l0.length : Int) ≤ 60
        · rw [if_pos c6] at H
          have c6b0 : decide ((l0.length : Int) ≤ 60) = true := decide_eq_true c6
          have c6b1 : decide (l0.length ≤ 60) = true := decide_eq_true (by omega)
          clear c6
          obtain rfl := Option.some.inj H
          go_wp2
          go_ret
          exact ⟨by first | rfl | (simp [errW_none, errW_some] <;> rfl) | (simp [*, errW_none, errW_some] <;> rfl), by repeat (first | (with_reducible first | exact HB.out | apply below_alloc | apply pw_below_drewN | apply below_drew1) | exact HB.out)⟩
        · rw [if_neg c6] at H
          have c6b0 : decide ((l0.length : Int) ≤ 60) = false := decide_eq_false c6
          have c6b1 : decide (l0.length ≤ 60) = false := decide_eq_false (by omega)
          clear c6
          obtain rfl := Option.some.inj H
          go_wp2
          go_ret
          exact ⟨by first | rfl | (simp [errW_none, errW_some] <;> rfl) | (simp [*, errW_none, errW_some] <;> rfl), by repeat (first | (with_reducible first | exact HB.out | apply below_alloc | apply pw_below_drewN | apply below_drew1) | exact HB.out)⟩
end Go.Proofs.Ytfiamddinkokbaa.F
end
