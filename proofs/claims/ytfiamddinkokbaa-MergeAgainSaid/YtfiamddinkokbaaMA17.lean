/- Texts joined into one file (wip/tools/pack.py): Fn114, Fn142, Fn115, Fn81, Fn33, BuildText -/
import Derived.Test.YtfiamddinkokbaaMA3
import Derived.Test.YtfiamddinkokbaaMA16
import Derived.Test.YtfiamddinkokbaaMA4
import Derived.Deep.RegionHeld3
set_option linter.unusedVariables false
set_option linter.unusedSimpArgs false
section
namespace Go.Proofs.Ytfiamddinkokbaa.F
open Go.RowKit Go.Proofs.YtfiamddinkokbaaW.PrintWords Go.Proofs.YtfiamddinkokbaaW.PrintLast Go.Proofs.YtfiamddinkokbaaW.PrintMore
attribute [local go_sem] max2_int min2_int max_two min_two max_three min_three max_four min_four
def doc_Labels_Plain.f (a0_0 : ByteArray) (a0_1 : ByteArray) (a0_2 : ByteArray) : Option (Bool) := if a0_0.size + a0_1.size ≤ 9223372036854775807 then (if (a0_0 ++ a0_1).size + a0_2.size ≤ 9223372036854775807 then ((strings_Contains.f ((a0_0 ++ a0_1) ++ a0_2) (⟨#[10]⟩ : ByteArray)).bind fun t134 => (some (!t134))) else (none)) else (none)
set_option maxHeartbeats 8000000 in
set_option maxRecDepth 100000 in
theorem doc_Labels_Plain.calls (a0_0 : ByteArray) (a0_1 : ByteArray) (a0_2 : ByteArray) (r : Bool) (w : World) (h : doc_Labels_Plain.f a0_0 a0_1 a0_2 = some r) :
  Calls Try.prog 114 #[.agg #[.string a0_0, .string a0_1, .string a0_2]] w fun e w' => e = .returned (.bool r) ∧ Below w.heap.size w w' := by
 have hu84 := Try.underlying84
 have HB := Aside0.mk (Below.refl w.heap.size w)
 have H : (if a0_0.size + a0_1.size ≤ 9223372036854775807 then (if (a0_0 ++ a0_1).size + a0_2.size ≤ 9223372036854775807 then ((strings_Contains.f ((a0_0 ++ a0_1) ++ a0_2) (⟨#[10]⟩ : ByteArray)).bind fun t134 => (some (!t134))) else (none)) else (none)) = some r := h
 clear h
 by_cases c2 : a0_0.size + a0_1.size ≤ 9223372036854775807
 ·rw [if_pos c2] at H
  have c2b0 := eq_true c2
  have c2b1 : decide (a0_0.size + a0_1.size ≤ 9223372036854775807) = true := decide_eq_true c2
  try have c2b2 : (9223372036854775807 < a0_0.size + a0_1.size) = False := eq_false (Nat.not_lt.2 c2)
  by_cases c3 : (a0_0 ++ a0_1).size + a0_2.size ≤ 9223372036854775807
  ·rw [if_pos c3] at H
   have c3b0 := eq_true c3
   have c3b1 : decide ((a0_0 ++ a0_1).size + a0_2.size ≤ 9223372036854775807) = true := decide_eq_true c3
   try have c3b2 : (9223372036854775807 < (a0_0 ++ a0_1).size + a0_2.size) = False := eq_false (Nat.not_lt.2 c3)
   try have c3b3 : (9223372036854775807 < a0_0.size + a0_1.size + a0_2.size) = False := eq_false (Nat.not_lt.2 (Nat.le_trans (Nat.le_of_eq (by first | rfl | (simp only [ByteArray.size_append]; done) | (simp only [ByteArray.size_append]; rfl))) c3))
   replace H := Option.bind_eq_some_iff.mp H
   obtain ⟨t134, A40, H⟩ := H
   replace H : (some (!t134)) = some r := H
   have A4 := Aside0.mk A40
   clear A40
   obtain rfl := Option.some.inj H
   go_enter Try.func114, Try.ntmps114
   go_wp2_with (first | ((with_reducible refine gate_dst (N := 1) rfl ?_); refine box_event ?hg (N := 1) ?hd (cs := #[.string a0_0, .string a0_1, .string a0_2]) (t := 84) ?hr ?_; (case hd => rfl); (case hg => rfl); (case hr => first | (go_simp; done) | (go_simp; rfl)); intro gb133 hg w5 hbox hb; have n0_ := Aside0.mk (below_step (by repeat (first | (with_reducible first | exact HB.out | apply below_alloc | apply pw_below_drewN | apply below_drew1) | exact HB.out)) hb); have n1_ := Aside0.mk (hbox); have n2_ := Aside0.mk ((by rw [hg]; exact (below_size (by repeat (first | (with_reducible first | exact HB.out | apply below_alloc | apply pw_below_drewN | apply below_drew1) | exact HB.out))) : w.heap.size ≤ gb133)); have n3_ := Aside0.mk ((by rw [hg]; exact (below_size (by repeat (first | (with_reducible first | exact HB.out | apply below_alloc | apply pw_below_drewN | apply below_drew1) | exact HB.out))) : w.heap.size ≤ gb133)); clear HB; have HB := n0_; have BK133 := n1_; have GW133 := n2_; have GE133 := n3_; clear n0_ n1_ n2_ n3_; clear hb hbox hg; have hcz6_0 : w5.cell? ⟨gb133, 0, none⟩ = some (.string a0_0) := (blk_cell BK133.out 0).trans rfl; have hcz6_1 : w5.cell? ⟨gb133, 1, none⟩ = some (.string a0_1) := (blk_cell BK133.out 1).trans rfl; have hcz6_2 : w5.cell? ⟨gb133, 2, none⟩ = some (.string a0_2) := (blk_cell BK133.out 2).trans rfl; have hfz6_0 := blk_frozen BK133.out 0; have hfz6_1 := blk_frozen BK133.out 1; have hfz6_2 := blk_frozen BK133.out 2) | ((with_reducible refine gate_callee (f := 84) rfl ?_); refine goesL_ (some 11) rfl rfl Try.func84 (by kernel_rfl) rfl #[.string ((a0_0 ++ a0_1) ++ a0_2), .string (⟨#[10]⟩ : ByteArray)] rfl (by (try simp only [List.map_toArray, List.map_cons, List.map_nil]); first | done | rfl | (simp only [List.length_drop, List.length_take]; rfl)) ?_; (with_reducible refine (strings_Contains.calls ((a0_0 ++ a0_1) ++ a0_2) (⟨#[10]⟩ : ByteArray) t134 _ A4.out).mono ?_); rintro e w' ⟨rfl, ⟨nd, rfl⟩⟩; refine ⟨_, rfl, ?_⟩))
   go_ret
   exact ⟨by first | rfl | (simp [errW_none, errW_some] <;> rfl) | (simp [*, errW_none, errW_some] <;> rfl), by repeat (first | (with_reducible first | exact HB.out | apply below_alloc | apply pw_below_drewN | apply below_drew1 | refine below_set ?_ GE133.out) | exact HB.out)⟩
  ·rw [if_neg c3] at H
   exact absurd H (by simp)
 ·rw [if_neg c2] at H
  exact absurd H (by simp)
def stringslite_HasSuffix.f (a0 : ByteArray) (a1 : ByteArray) : Option (Bool) := if (a0.size : Int) ≥ (a1.size : Int) then (if 0 ≤ (wrap64 ((a0.size : Int) - (a1.size : Int))) then (if (wrap64 ((a0.size : Int) - (a1.size : Int))) ≤ (a0.size : Int) then (some ((a0.extract ((wrap64 ((a0.size : Int) - (a1.size : Int))) : Int).toNat a0.size).toList == a1.toList)) else (none)) else (none)) else (some false)
set_option maxHeartbeats 8000000 in
set_option maxRecDepth 100000 in
theorem stringslite_HasSuffix.calls (a0 : ByteArray) (a1 : ByteArray) (r : Bool) (w : World) (h : stringslite_HasSuffix.f a0 a1 = some r) :
  Calls Try.prog 142 #[.string a0, .string a1] w fun e w' => e = .returned (.bool r) ∧ Drawn0 w w' := by
 have H : (if (a0.size : Int) ≥ (a1.size : Int) then (if 0 ≤ (wrap64 ((a0.size : Int) - (a1.size : Int))) then (if (wrap64 ((a0.size : Int) - (a1.size : Int))) ≤ (a0.size : Int) then (some ((a0.extract ((wrap64 ((a0.size : Int) - (a1.size : Int))) : Int).toNat a0.size).toList == a1.toList)) else (none)) else (none)) else (some false)) = some r := h
 clear h
 by_cases c3 : (a0.size : Int) ≥ (a1.size : Int)
 ·rw [if_pos c3] at H
  have c3b0 : decide ((a1.size : Int) ≤ (a0.size : Int)) = true := decide_eq_true c3
  have c3b1 : decide (a1.size ≤ a0.size) = true := decide_eq_true (Int.ofNat_le.mp c3)
  clear c3
  obtain ⟨ji4, hji4⟩ : ∃ j_ : Int, (wrap64 ((a0.size : Int) - (a1.size : Int))) = j_ := ⟨_, rfl⟩
  replace H : (if 0 ≤ (ji4) then (if (ji4) ≤ (a0.size : Int) then (some ((a0.extract ((ji4) : Int).toNat a0.size).toList == a1.toList)) else (none)) else (none)) = some r := by first | (rw [hji4] at H; exact H) | (simp only [hji4] at H ⊢; exact H)
  have hji4w : (IntKind.i64.wrap ((a0.size : Int) - (a1.size : Int))) = ji4 := (i64_w _).trans hji4
  by_cases c5 : 0 ≤ (ji4)
  ·rw [if_pos c5] at H
   have c5b0 := eq_true c5
   have c5b1 : decide (0 ≤ (ji4)) = true := decide_eq_true c5
   clear c5
   by_cases c6 : (ji4) ≤ (a0.size : Int)
   ·rw [if_pos c6] at H
    have c6b0 := eq_true c6
    have c6b1 : decide ((ji4) ≤ (a0.size : Int)) = true := decide_eq_true c6
    clear c6
    obtain rfl := Option.some.inj H
    go_enter Try.func142, Try.ntmps142
    go_wp2
    go_ret
    exact ⟨by first | rfl | (simp; done) | (simp only [← hji4] <;> (first | rfl | simp)) | (simp [*]; done), by repeat (first | exact Drawn0.refl _ | apply Drawn0.step)⟩
   ·rw [if_neg c6] at H
    exact absurd H (by simp)
  ·rw [if_neg c5] at H
   exact absurd H (by simp)
 ·rw [if_neg c3] at H
  have c3b0 : decide ((a1.size : Int) ≤ (a0.size : Int)) = false := decide_eq_false c3
  have c3b1 : decide (a1.size ≤ a0.size) = false := decide_eq_false (fun h => c3 (Int.ofNat_le.mpr h))
  clear c3
  obtain rfl := Option.some.inj H
  go_enter Try.func142, Try.ntmps142
  go_wp2
  go_ret
  exact ⟨by first | rfl | (simp; done) | (simp [*]; done), by repeat (first | exact Drawn0.refl _ | apply Drawn0.step)⟩
def strings_HasSuffix.f (a0 : ByteArray) (a1 : ByteArray) : Option (Bool) := (stringslite_HasSuffix.f a0 a1).bind fun t135 => (some t135)
set_option maxHeartbeats 8000000 in
set_option maxRecDepth 100000 in
theorem strings_HasSuffix.calls (a0 : ByteArray) (a1 : ByteArray) (r : Bool) (w : World) (h : strings_HasSuffix.f a0 a1 = some r) :
  Calls Try.prog 115 #[.string a0, .string a1] w fun e w' => e = .returned (.bool r) ∧ Drawn0 w w' := by
 have H : ((stringslite_HasSuffix.f a0 a1).bind fun t135 => (some t135)) = some r := h
 clear h
 replace H := Option.bind_eq_some_iff.mp H
 obtain ⟨t135, A30, H⟩ := H
 replace H : (some t135) = some r := H
 have A3 := Aside0.mk A30
 clear A30
 obtain rfl := Option.some.inj H
 go_enter Try.func115, Try.ntmps115
 go_wp2_with (first | ((with_reducible refine gate_callee (f := 142) rfl ?_); refine goesL_ (some 7) rfl rfl Try.func142 (by kernel_rfl) rfl #[.string a0, .string a1] rfl (by (try simp only [List.map_toArray, List.map_cons, List.map_nil]); first | done | rfl | (simp only [List.length_drop, List.length_take]; rfl)) ?_; (with_reducible refine (stringslite_HasSuffix.calls a0 a1 t135 _ A3.out).mono ?_); rintro e w' ⟨rfl, ⟨nd, rfl⟩⟩; refine ⟨_, rfl, ?_⟩))
 go_ret
 exact ⟨by first | rfl | (simp; done) | (simp [*]; done), by repeat (first | exact Drawn0.refl _ | apply Drawn0.step)⟩
def strings_Join.f (l0 : List ByteArray) (a1 : ByteArray) : Option ByteArray := if l0.length ≤ 140737488355328 ∧ (joinB l0 a1).size ≤ 140737488355328 then some (joinB l0 a1) else none
theorem strings_Join.calls (A0 : Option Addr) (c0 : Nat) (l0 : List ByteArray) (a1 : ByteArray) (r : ByteArray) (w : World) (hr0 : Kd.C Kd.string w A0 l0.length l0) (hc0 : l0.length ≤ c0) (h : strings_Join.f l0 a1 = some r) :
  Calls Try.prog 81 #[.slice A0 l0.length c0, .string a1] w fun e w' => e = .returned (.string r) ∧ Below w.heap.size w w' := by
 exact ext_join A0 c0 l0 a1 r w hr0 hc0 h
def lines_Join.f (l0 : List ByteArray) : Option (ByteArray) := (strings_Join.f l0 (⟨#[]⟩ : ByteArray)).bind fun t270 => (some t270)
set_option maxHeartbeats 8000000 in
set_option maxRecDepth 100000 in
theorem lines_Join.calls (A0 : Option Addr) (c0 : Nat) (l0 : List ByteArray) (r : ByteArray) (w : World) (hr0 : Kd.C Kd.string w A0 l0.length l0) (hc0 : l0.length ≤ c0) (h : lines_Join.f l0 = some r) :
  Calls Try.prog 33 #[.slice A0 l0.length c0] w fun e w' => e = .returned (.string r) ∧ Below w.heap.size w w' := by
 have HR0 := Aside0.mk hr0
 have HC0 := Aside0.mk hc0
 clear hr0 hc0
 have HB := Aside0.mk (Below.refl w.heap.size w)
 have H : ((strings_Join.f l0 (⟨#[]⟩ : ByteArray)).bind fun t270 => (some t270)) = some r := h
 clear h
 replace H := Option.bind_eq_some_iff.mp H
 obtain ⟨t270, A20, H⟩ := H
 replace H : (some t270) = some r := H
 have A2 := Aside0.mk A20
 clear A20
 obtain rfl := Option.some.inj H
 go_enter Try.func33, Try.ntmps33
 go_wp2_with (first | ((with_reducible refine gate_callee (f := 81) rfl ?_); refine goesL_ (some 4) rfl rfl Try.func81 (by kernel_rfl) rfl #[.slice A0 l0.length c0, .string (⟨#[]⟩ : ByteArray)] rfl (by (try simp only [List.map_toArray, List.map_cons, List.map_nil]); first | done | rfl | (simp only [List.length_drop, List.length_take]; rfl)) ?_; (with_reducible refine (strings_Join.calls _ _ l0 (⟨#[]⟩ : ByteArray) t270 _ ?side1 ?side2 A2.out).mono ?_); (case side1 => repeat (first | exact HR0.out | (with_reducible refine Kd.C_alloc ?_ _) | (with_reducible refine Kd.C_drewN ?_ _) | (with_reducible refine Kd.C_drew ?_))); (case side2 => exact HC0.out); rintro e w3 ⟨rfl, hb⟩; refine ⟨_, rfl, ?_⟩; have n0_ := Aside0.mk (below_step (by repeat (first | (with_reducible first | exact HB.out | apply below_alloc | apply pw_below_drewN | apply below_drew1) | exact HB.out)) hb); clear HB; have HB := n0_; clear n0_; (try clear hb); (try clear hb2); (try clear hk); (try clear hi)))
 go_ret
 exact ⟨by first | rfl | (simp [errW_none, errW_some] <;> rfl) | (simp [*, errW_none, errW_some] <;> rfl), by repeat (first | (with_reducible first | exact HB.out | apply below_alloc | apply pw_below_drewN | apply below_drew1) | exact HB.out)⟩
end Go.Proofs.Ytfiamddinkokbaa.F
end

section
namespace Go.Proofs.Ytfiamddinkokbaa.F
open Go.RowKit Go.Shelf Go.Proofs.YtfiamddinkokbaaW.PrintWords
abbrev PP := S106
def Bld (B f X : Nat) (g0 g1 g2 : ByteArray) (st fv : Int) (l : List PP) (w : World) : Prop :=
 ∃ v, B ≤ f ∧ w.heap[f]? = some (.cells #[.string g0, .string g1, .string g2, .int .i64 st, .int .i64 fv, v] 176 (0, 0)) ∧ Kd.R k106 106 w B (fun k => k ≠ f ∧ k ≠ X) v l
theorem Bld.below {B f X : Nat} {g0 g1 g2 : ByteArray} {st fv : Int} {l : List PP} {w w' : World} (h : Bld B f X g0 g1 g2 st fv l w) (hb : Below w.heap.size w w') : Bld B f X g0 g1 g2 st fv l w' := by
 obtain ⟨v, h0, h1, h2⟩ := h
 exact ⟨v, h0, (hb.block f (Array.getElem?_eq_some_iff.1 h1).1).trans h1, Kd.R_below h2 hb⟩
theorem Bld.lo {B f X : Nat} {g0 g1 g2 : ByteArray} {st fv : Int} {l : List PP} {w : World} (h : Bld B f X g0 g1 g2 st fv l w) : B ≤ f := by obtain ⟨v, h, _⟩ := h; exact h
theorem Bld.lt {B f X : Nat} {g0 g1 g2 : ByteArray} {st fv : Int} {l : List PP} {w : World} (h : Bld B f X g0 g1 g2 st fv l w) : f < w.heap.size := by obtain ⟨v, _, h, _⟩ := h; exact (Array.getElem?_eq_some_iff.1 h).1
theorem Bld.weaken {B f X : Nat} {g0 g1 g2 : ByteArray} {st fv : Int} {l : List PP} {w : World} (h : Bld B f X g0 g1 g2 st fv l w) : Bld B f f g0 g1 g2 st fv l w := by
 obtain ⟨v, h0, h1, h2⟩ := h
 exact ⟨v, h0, h1, Kd.R_mono h2 (fun k hk => ⟨hk.1, hk.1⟩)⟩
theorem Bld.fresh {B f X : Nat} {g0 g1 g2 : ByteArray} {st fv : Int} {l : List PP} {w w' : World} {Y : Nat} (h : Bld B f X g0 g1 g2 st fv l w) (hY : w.heap.size ≤ Y) (hb : Below w.heap.size w w') : Bld B f Y g0 g1 g2 st fv l w' := by
 obtain ⟨v, h0, h1, h2⟩ := h
 refine ⟨v, h0, (hb.block f (Array.getElem?_eq_some_iff.1 h1).1).trans h1, Kd.R_below ⟨fun k hk => ⟨(h2.1 k hk).1, fun e => ?_⟩, h2.2⟩ hb⟩
 have := Kd.R_lt h2 k hk
 omega
theorem part_info : (Try.prog.info? 106).map (fun i => (i.zero, i.size, i.bytes)) = some (some (.agg #[.string ⟨#[]⟩, .string ⟨#[]⟩, .string ⟨#[]⟩, .bool false, .string ⟨#[]⟩, .string ⟨#[]⟩, .string ⟨#[]⟩, .string ⟨#[]⟩, .bool false]), 9, 128) := by kernel_rfl
theorem bld_put {B f X : Nat} {g0 g1 g2 : ByteArray} {st fv : Int} {v v1 : Value} {l l1 : List PP} {W w1 : World} (h0 : B ≤ f) (h1 : W.heap[f]? = some (.cells #[.string g0, .string g1, .string g2, .int .i64 st, .int .i64 fv, v] 176 (0, 0))) (hR : Kd.R k106 106 W B (fun k => k ≠ f ∧ k ≠ X) v l)
  (hR1 : Kd.R k106 106 w1 B (fun k => k ≠ f ∧ k ≠ X) v1 l1) (hg : W.grownBy w1 v.ownBlock) : w1.heap[f]? = some (.cells #[.string g0, .string g1, .string g2, .int .i64 st, .int .i64 fv, v] 176 (0, 0)) ∧ Bld B f X g0 g1 g2 st fv l1 (w1.setCell ⟨f, 5, none⟩ v1) := by
 have hf : w1.heap[f]? = some (.cells #[.string g0, .string g1, .string g2, .int .i64 st, .int .i64 fv, v] 176 (0, 0)) := (hg.block f (Array.getElem?_eq_some_iff.1 h1).1 (fun e => (hR.1 f e.symm).1 rfl)).trans h1
 refine ⟨hf, v1, h0, ?_, ?_⟩
 ·simp [World.setCell, Array.getElem?_modify, hf]
 ·exact Kd.R_step hR1 (fun k hk _ => Below.heap_setCell _ _ _ _ hk.1)
theorem tr1 {W : World} {p : Addr} {v : Value} (o : Obj) (h : W.cell? p = some v) : (W.alloc o).cell? p = some v := ((below_alloc (Below.refl W.heap.size W) o).cell (World.block_lt_of_cell? W _ h)).trans h
def textPart (j : ByteArray) : PP := ⟨z84, false, j, ⟨#[]⟩, ⟨#[]⟩, ⟨#[]⟩, false⟩
set_option maxHeartbeats 8000000 in
set_option maxRecDepth 100000 in
theorem text_calls {B f X : Nat} {g0 g1 g2 : ByteArray} {st fv : Int} {l : List PP} {w : World} (A1 : Option Addr) (c1 : Nat) (xs : List ByteArray) (j : ByteArray) (h : Bld B f X g0 g1 g2 st fv l w) (hA : Kd.C Kd.string w A1 xs.length xs) (hc : xs.length ≤ c1) (hj : lines_Join.f xs = some j) (hl : l.length ≤ 100000000000) (hBw : B ≤ w.heap.size) (hX : X < w.heap.size) :
  Calls Try.prog 158 #[.pointer (some ⟨f, 0, none⟩), .slice A1 xs.length c1] w fun e w' => e = .returned (.tuple #[]) ∧ Bld B f X g0 g1 g2 st fv (l ++ [textPart j]) w' ∧ Below B w w' ∧ Keeps 106 f w w' ∧ (X ≠ f → w'.heap[X]? = w.heap[X]?) := by
 have HXl := Aside0.mk hX
 have HBw := Aside0.mk hBw
 obtain ⟨v, h0, h1, hR⟩ := h
 obtain ⟨Av, cv, rfl⟩ := Kd.R_slice hR
 have c5 := (blk_cell h1 5).trans (rfl : _ = some (Value.slice Av l.length cv))
 have HS := Aside0.mk h1
 have HF0 := Aside0.mk h0
 have HR := Aside0.mk hR
 have HJ := Aside0.mk (fun W (hb : Below w.heap.size w W) => lines_Join.calls A1 c1 xs j W (Kd.C_below hA hb) hc hj)
 clear h0 h1 hR hBw hA hc hj hX
 go_enter Try.func158, Try.ntmps158
 go_region_law ((first
   | (refine Go.Proofs.YtfiamddinkokbaaW.PrintLast.goes_ Try.func33 (by kernel_rfl) rfl #[.slice A1 xs.length c1] (by rfl) rfl rfl (by (try simp only [List.map_toArray, List.map_cons, List.map_nil]); rfl) ?_; refine (HJ.out _ (below_drew1 (Below.refl _ _))).mono ?_; rintro e w1 ⟨rfl, hb1⟩; refine ⟨_, rfl, ?_⟩; have HB1 := Aside0.mk (below_step (below_drew1 (Below.refl w.heap.size w)) hb1); have HS1 := Aside0.mk ((HB1.out.block f (Array.getElem?_eq_some_iff.1 HS.out).1).trans HS.out); have c51 := (blk_cell HS1.out 5).trans (rfl : _ = some (Value.slice Av l.length cv)); have c53 : ∀ o, (w1.alloc o).cell? ⟨f, 5, none⟩ = some (Value.slice Av l.length cv) := fun o => tr1 o c51; have HR1 := Aside0.mk (Kd.R_below HR.out HB1.out); have HL1 := Aside0.mk (Nat.le_trans HBw.out HB1.out.size); have HFr : Aside0 (∀ k, w1.heap.size ≤ k → k ≠ f ∧ k ≠ X) := ⟨fun k hk => ⟨fun e => by have := (Array.getElem?_eq_some_iff.1 HS1.out).1; omega, fun e => by have := HB1.out.size; have := HXl.out; omega⟩⟩; clear hb1)
   | (refine Kd.R_append_step k106 (w0 := w) (W := w1) B (by rfl) (.tmp 8) (.tmp 12) 28 106 (.agg #[.string ⟨#[]⟩, .string ⟨#[]⟩, .string ⟨#[]⟩, .bool false, .string ⟨#[]⟩, .string ⟨#[]⟩, .string ⟨#[]⟩, .string ⟨#[]⟩, .bool false]) 128 (by rfl) Try.underlying28 part_info rfl (by decide) (by omega) (.slice Av l.length cv) l (textPart j) [.string ⟨#[]⟩, .string ⟨#[]⟩, .string ⟨#[]⟩, .bool false, .string j, .string ⟨#[]⟩, .string ⟨#[]⟩, .string ⟨#[]⟩, .bool false] (fun k => k ≠ f ∧ k ≠ X) (fun _ => False) (by rfl) (by rfl) (k106_mkM _ _ _ _) (fun _ hk => hk.elim) HFr.out HR1.out (HB1.out.mono HBw.out) HL1.out (by omega) ?_; intro v1 w2 ho hb hg1 hat; obtain ⟨Aw, cw, rfl⟩ := Kd.R_slice ho; obtain ⟨hf1, hfin⟩ := bld_put HF0.out HS1.out HR1.out ho hg1; have c52 := (blk_cell hf1 5).trans (rfl : _ = some (Value.slice Av l.length cv)); have f52 := Lib.frozen_of_heap hf1 5; have HF2 := Aside0.mk hfin; have HB2 := Aside0.mk hb; have HX2 := Aside0.mk ((hg1.block X (Nat.lt_of_lt_of_le HXl.out HB1.out.size) (fun e => (HR1.out.1 X e.symm).2 rfl)).trans (HB1.out.block X HXl.out)); have HK2 := Aside0.mk ((Keeps.below (T := 106) (b := f) HB1.out).grown hg1 (Kd.R_typed HR1.out)); clear ho hb hg1 hat hfin hf1)))
 all_goals go_end0
 all_goals refine ⟨rfl, ?_, HB2.out.setCell (p := ⟨f, 5, none⟩) HF0.out _, HK2.out.set 5 _, fun e => (Below.heap_setCell _ _ _ _ e).trans HX2.out⟩
 all_goals rw [show l.length + 1 = (l ++ [textPart j]).length by simp only [List.length_append, List.length_singleton]]; exact HF2.out
end Go.Proofs.Ytfiamddinkokbaa.F
end
