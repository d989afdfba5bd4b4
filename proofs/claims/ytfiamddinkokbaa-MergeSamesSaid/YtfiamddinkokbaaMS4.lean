/- Texts joined into one file (wip/tools/pack.py): Fn52, Fn49, Fn90, Fn128, Fn94, Fn150, Fn127, Fn97, Fn54, Fn46, Print, Hunk, MarkPrint, Fn47, Fn126, Fn91, Fn92, Fn93, Fn48, Fn103, Fn108, Fn60, Fn138, Fn109, Class, Fn61, Fn137, BuildConf, BuildPiece, BuildDoc, Count, Fn105, Fn38, Fn132, Fn102, Fn104 -/
import Derived.Test.YtfiamddinkokbaaMS1
import Derived.Test.YtfiamddinkokbaaMS2
import Derived.Test.YtfiamddinkokbaaMS3
import Derived.Deep.RegionHeld3
import Derived.BigQuiet
import Derived.Deep.DrawnRows
section
set_option linter.unusedVariables false
set_option linter.unusedSimpArgs false
namespace Go.Proofs.Ytfiamddinkokbaa.F
open Go.RowKit Go.Proofs.YtfiamddinkokbaaW.PrintWords Go.Proofs.YtfiamddinkokbaaW.PrintLast Go.Proofs.YtfiamddinkokbaaW.PrintMore
attribute [local go_sem] max2_int min2_int max_two min_two max_three min_three max_four min_four
set_option linter.unusedVariables false
set_option linter.unusedSimpArgs false
end Go.Proofs.Ytfiamddinkokbaa.F
end

section
set_option linter.unusedVariables false
set_option linter.unusedSimpArgs false
namespace Go.Proofs.Ytfiamddinkokbaa.F
open Go.RowKit Go.Proofs.YtfiamddinkokbaaW.PrintWords Go.Proofs.YtfiamddinkokbaaW.PrintLast Go.Proofs.YtfiamddinkokbaaW.PrintMore
attribute [local go_sem] max2_int min2_int max_two min_two max_three min_three max_four min_four
set_option linter.unusedVariables false
set_option linter.unusedSimpArgs false
end Go.Proofs.Ytfiamddinkokbaa.F
end

section
set_option linter.unusedVariables false
set_option linter.unusedSimpArgs false
namespace Go.Proofs.Ytfiamddinkokbaa.F
open Go.RowKit Go.Proofs.YtfiamddinkokbaaW.PrintWords Go.Proofs.YtfiamddinkokbaaW.PrintLast Go.Proofs.YtfiamddinkokbaaW.PrintMore
attribute [local go_sem] max2_int min2_int max_two min_two max_three min_three max_four min_four
set_option linter.unusedVariables false
set_option linter.unusedSimpArgs false
end Go.Proofs.Ytfiamddinkokbaa.F
end

section
set_option linter.unusedVariables false
set_option linter.unusedSimpArgs false
namespace Go.Proofs.Ytfiamddinkokbaa.F
open Go.RowKit Go.Proofs.YtfiamddinkokbaaW.PrintWords Go.Proofs.YtfiamddinkokbaaW.PrintLast Go.Proofs.YtfiamddinkokbaaW.PrintMore
attribute [local go_sem] max2_int min2_int max_two min_two max_three min_three max_four min_four
set_option linter.unusedVariables false
set_option linter.unusedSimpArgs false
end Go.Proofs.Ytfiamddinkokbaa.F
end

section
set_option linter.unusedVariables false
set_option linter.unusedSimpArgs false
namespace Go.Proofs.Ytfiamddinkokbaa.F
open Go.RowKit Go.Proofs.YtfiamddinkokbaaW.PrintWords Go.Proofs.YtfiamddinkokbaaW.PrintLast Go.Proofs.YtfiamddinkokbaaW.PrintMore
attribute [local go_sem] max2_int min2_int max_two min_two max_three min_three max_four min_four
set_option linter.unusedVariables false
set_option linter.unusedSimpArgs false
end Go.Proofs.Ytfiamddinkokbaa.F
end

section
set_option linter.unusedVariables false
set_option linter.unusedSimpArgs false
namespace Go.Proofs.Ytfiamddinkokbaa.F
open Go.RowKit Go.Proofs.YtfiamddinkokbaaW.PrintWords Go.Proofs.YtfiamddinkokbaaW.PrintLast Go.Proofs.YtfiamddinkokbaaW.PrintMore
attribute [local go_sem] max2_int min2_int max_two min_two max_three min_three max_four min_four
set_option linter.unusedVariables false
set_option linter.unusedSimpArgs false
end Go.Proofs.Ytfiamddinkokbaa.F
end

section
set_option linter.unusedVariables false
set_option linter.unusedSimpArgs false
namespace Go.Proofs.Ytfiamddinkokbaa.F
open Go.RowKit Go.Proofs.YtfiamddinkokbaaW.PrintWords Go.Proofs.YtfiamddinkokbaaW.PrintLast Go.Proofs.YtfiamddinkokbaaW.PrintMore
attribute [local go_sem] max2_int min2_int max_two min_two max_three min_three max_four min_four
set_option linter.unusedVariables false
set_option linter.unusedSimpArgs false
end Go.Proofs.Ytfiamddinkokbaa.F
end

section
set_option linter.unusedVariables false
set_option linter.unusedSimpArgs false
namespace Go.Proofs.Ytfiamddinkokbaa.F
open Go.RowKit Go.Proofs.YtfiamddinkokbaaW.PrintWords Go.Proofs.YtfiamddinkokbaaW.PrintLast Go.Proofs.YtfiamddinkokbaaW.PrintMore
attribute [local go_sem] max2_int min2_int max_two min_two max_three min_three max_four min_four
set_option linter.unusedVariables false
set_option linter.unusedSimpArgs false
end Go.Proofs.Ytfiamddinkokbaa.F
end

section
set_option linter.unusedVariables false
set_option linter.unusedSimpArgs false
namespace Go.Proofs.Ytfiamddinkokbaa.F
open Go.RowKit Go.Proofs.YtfiamddinkokbaaW.PrintWords Go.Proofs.YtfiamddinkokbaaW.PrintLast Go.Proofs.YtfiamddinkokbaaW.PrintMore
attribute [local go_sem] max2_int min2_int max_two min_two max_three min_three max_four min_four
set_option linter.unusedVariables false
set_option linter.unusedSimpArgs false
end Go.Proofs.Ytfiamddinkokbaa.F
end

section
set_option linter.unusedVariables false
set_option linter.unusedSimpArgs false
namespace Go.Proofs.Ytfiamddinkokbaa.F
open Go.RowKit Go.Proofs.YtfiamddinkokbaaW.PrintWords Go.Proofs.YtfiamddinkokbaaW.PrintLast Go.Proofs.YtfiamddinkokbaaW.PrintMore
attribute [local go_sem] max2_int min2_int max_two min_two max_three min_three max_four min_four
set_option linter.unusedVariables false
set_option linter.unusedSimpArgs false
end Go.Proofs.Ytfiamddinkokbaa.F
end

section
set_option linter.unusedVariables false
set_option linter.unusedSimpArgs false
namespace Go.Proofs.Ytfiamddinkokbaa.F
open Go.RowKit Go.Shelf Go.Proofs.YtfiamddinkokbaaW.PrintWords
set_option linter.unusedVariables false
set_option linter.unusedSimpArgs false
def Pr (B b : Nat) (wd : Int) (lk : Bool) (bs : List UInt8) (w : World) : Prop :=
 ∃ p v, BldAt 129 0 B b #[p, v, .int .i64 wd, .bool lk] p v bs w
theorem Pr.below {B b : Nat} {wd : Int} {lk : Bool} {bs : List UInt8} {w w' : World} (h : Pr B b wd lk bs w) (hb : Below w.heap.size w w') : Pr B b wd lk bs w' := by
 obtain ⟨p, v, h⟩ := h
 refine ⟨p, v, ⟨h.lo, (hb.block b h.lt).trans h.blk, h.at0, h.at1, h.ptr, ?_, h.ne⟩⟩
 exact own_move h.own (fun k hk => hb.block k (own_lt h.own k hk))
theorem Pr.wd {B b : Nat} {wd : Int} {lk : Bool} {bs : List UInt8} {w : World} (h : Pr B b wd lk bs w) : w.cell? ⟨b, 2, none⟩ = some (.int .i64 wd) := by
 obtain ⟨p, v, h⟩ := h; exact (Lib.cell_of_heap h.blk 2).trans rfl
theorem Pr.lk {B b : Nat} {wd : Int} {lk : Bool} {bs : List UInt8} {w : World} (h : Pr B b wd lk bs w) : w.cell? ⟨b, 3, none⟩ = some (.bool lk) := by
 obtain ⟨p, v, h⟩ := h; exact (Lib.cell_of_heap h.blk 3).trans rfl
theorem Pr.fz {B b : Nat} {wd : Int} {lk : Bool} {bs : List UInt8} {w : World} (h : Pr B b wd lk bs w) (i : Nat) : w.frozen? ⟨b, i, none⟩ = false := by
 obtain ⟨p, v, h⟩ := h; exact Lib.frozen_of_heap h.blk i
theorem Pr.lo {B b : Nat} {wd : Int} {lk : Bool} {bs : List UInt8} {w : World} (h : Pr B b wd lk bs w) : B ≤ b := by obtain ⟨p, v, h⟩ := h; exact h.lo
theorem Pr.lt {B b : Nat} {wd : Int} {lk : Bool} {bs : List UInt8} {w : World} (h : Pr B b wd lk bs w) : b < w.heap.size := by obtain ⟨p, v, h⟩ := h; exact h.lt
theorem Pr.put {B b : Nat} {wd : Int} {lk : Bool} {bs : List UInt8} {w : World} (h : Pr B b wd lk bs w) (l : Bool) : Pr B b wd l bs (w.setCell ⟨b, 3, none⟩ (.bool l)) := by
 obtain ⟨p, v, h⟩ := h
 refine ⟨p, v, ⟨h.lo, ?_, rfl, rfl, h.ptr, ?_, h.ne⟩⟩
 ·have := h.blk
  simp [World.setCell, Array.getElem?_modify, this]
 ·exact own_move h.own (fun k hk => Below.heap_setCell _ _ _ _ (fun e => h.ne (by rw [hk, e])))
def KeepT (b : Nat) (w w' : World) : Prop := ∀ k cs t fr, w.heap[k]? = some (.cells cs t fr) → t ≠ 5 → k ≠ b → w'.heap[k]? = w.heap[k]?
theorem KeepT.refl (b : Nat) (w : World) : KeepT b w w := fun _ _ _ _ _ _ _ => rfl
theorem KeepT.trans {b : Nat} {w w1 w2 : World} (h : KeepT b w w1) (g : KeepT b w1 w2) : KeepT b w w2 := fun k cs t fr hk ht hb => by
 have h1 := h k cs t fr hk ht hb
 rw [g k cs t fr (h1.trans hk) ht hb, h1]
theorem KeepT.below {b : Nat} {w w' : World} (h : Below w.heap.size w w') : KeepT b w w' := fun k cs t fr hk _ _ => h.block k (Array.getElem?_eq_some_iff.1 hk).1
theorem KeepT.set {b : Nat} {w w' : World} (h : KeepT b w w') (i : Nat) (v : Value) : KeepT b w (w'.setCell ⟨b, i, none⟩ v) := fun k cs t fr hk ht hb => by
 rw [Below.heap_setCell _ _ _ _ hb]; exact h k cs t fr hk ht hb
theorem KeepT.drewN {b : Nat} {w w' : World} (h : KeepT b w w') (n : Nat) : KeepT b w (w'.drewN n) := fun k cs t fr hk ht hb => (h k cs t fr hk ht hb)
theorem KeepT.cell {b : Nat} {w w' : World} (h : KeepT b w w') {k : Nat} {cs : Array Value} {t : TypeId} (hk : w.heap[k]? = some (.cells cs t (0, 0))) (ht : t ≠ 5) (hb : k ≠ b) : w'.heap[k]? = some (.cells cs t (0, 0)) :=
 (h k cs t (0, 0) hk ht hb).trans hk
theorem pr_write {B b : Nat} {wd : Int} {lk : Bool} {bs : List UInt8} {w : World} (s : ByteArray) (h : Pr B b wd lk bs w) (hlen : bs.length + s.size ≤ 140737488355328) (hBw : B ≤ w.heap.size) :
  Calls Try.prog 87 #[.pointer (some ⟨b, 0, none⟩), .string s] w fun e w' => e = .returned (.tuple #[.int .i64 s.size, .nilIface]) ∧ Pr B b wd lk (bs ++ s.data.toList) w' ∧ Below B w w' ∧ KeepT b w w' := by
 obtain ⟨p, v, h⟩ := h
 refine (bld_write s h (by kernel_rfl) (by decide) hlen hBw).mono ?_
 rintro e w' ⟨rfl, v', h', hb, hk⟩
 refine ⟨rfl, ⟨_, v', h'⟩, hb, fun k cs t fr hkk ht hkb => hk k (Array.getElem?_eq_some_iff.1 hkk).1 hkb (fun e => ?_)⟩
 obtain ⟨cells, hc⟩ := own_typed h.own k e.symm
 rw [hkk] at hc
 injection hc with hc
 injection hc with _ hc _
 exact ht hc
theorem pr_drawn {n : Nat} {w w' : World} (h : Below n w.drew w') : Below n w w' := ⟨h.os, h.tape, h.output, h.size, h.block⟩
set_option maxHeartbeats 8000000 in
set_option maxRecDepth 100000 in
theorem pr_marker {B b : Nat} {wd : Int} {lk : Bool} {bs : List UInt8} {w : World} (k : Int) (lb : ByteArray) (h : Pr B b wd lk bs w) (h0 : 0 ≤ k) (h1 : k < 128) (w0 : 0 ≤ wd) (w1 : wd ≤ 1073741824) (hl : lb.size ≤ 4000000000)
  (hlen : bs.length + (lineB k lk lb wd).size ≤ 140737488355328) (hBw : B ≤ w.heap.size) :
  Calls Try.prog 124 #[.pointer (some ⟨b, 0, none⟩), .int .u8 k, .string lb] w fun e w' => e = .returned (.tuple #[]) ∧ Pr B b wd false (bs ++ (lineB k lk lb wd).data.toList) w' ∧ Below B w w' ∧ KeepT b w w' := by
 have HL := fun W => line_calls k lk lb wd W h0 h1 w0 w1 hl
 have HP := Aside0.mk h
 have c2 := h.wd
 have c3 := h.lk
 have HBw := Aside0.mk hBw
 generalize lineB k lk lb wd = ln at HL hlen ⊢
 clear hl h hBw
 go_enter Try.func124, Try.ntmps124
 go_wp2_with fail
 go_region_with ((first
  | (go_at_call 96; refine (HL _).mono ?_; rintro e w1 ⟨rfl, hb1⟩; have HP1 := Aside0.mk (HP.out.below (pr_drawn hb1)); have HB1 := Aside0.mk (Below.mono (pr_drawn hb1) HBw.out); have HK1 := Aside0.mk (KeepT.below (b := b) (w := w) (pr_drawn hb1)); clear hb1)
  | (go_at_call 87; refine (pr_write ln HP1.out hlen (Nat.le_trans HBw.out HB1.out.size)).mono ?_; rintro e w2 ⟨rfl, hp2, hb2, hk2⟩)))
 all_goals have f3 := hp2.fz 3
 all_goals have d3 := hp2.lk
 all_goals have BB := Aside0.mk (Below.trans HB1.out hb2)
 all_goals have HK2 := Aside0.mk (KeepT.trans HK1.out hk2)
 all_goals have HP2 := Aside0.mk hp2
 all_goals clear hp2 hb2 HP HP1 HB1 hk2 HK1
 all_goals go_wp2
 all_goals go_end0
 all_goals exact ⟨rfl, HP2.out.put false, Below.setCell (p := ⟨b, 3, none⟩) BB.out HP2.out.lo _, HK2.out.set 3 _⟩
theorem pr_step {B b : Nat} {wd : Int} {lk : Bool} {bs : List UInt8} {w : World} (h : Pr B b wd lk bs w) (nd : Nat) (l : Bool) : Pr B b wd l bs ((w.drewN nd).setCell ⟨b, 3, none⟩ (.bool l)) :=
 (h.below (pw_below_drewN (Below.refl _ _) nd)).put l
theorem pr_size {B b : Nat} {w w1 : World} (h : B ≤ w.heap.size) (hb : Below B w w1) (nd : Nat) (l : Bool) : B ≤ ((w1.drewN nd).setCell ⟨b, 3, none⟩ (.bool l)).heap.size := by
 have := hb.size
 simp [World.setCell]; omega
theorem size_dataL (s : ByteArray) : s.data.toList.length = s.size := Array.length_toList
def lacksB (s : ByteArray) (q : Bool) : Bool := !s.toList.isEmpty && !q
def sideL (s : ByteArray) (q : Bool) : List UInt8 := s.data.toList ++ (if lacksB s q = true then [10] else [])
set_option maxHeartbeats 8000000 in
set_option maxRecDepth 100000 in
theorem pr_side {B b : Nat} {wd : Int} {lk : Bool} {bs : List UInt8} {w : World} (s : ByteArray) (q : Bool) (h : Pr B b wd lk bs w) (hq : strings_HasSuffix.f s ⟨#[10]⟩ = some q)
  (hlen : bs.length + s.size + 1 ≤ 140737488355328) (hBw : B ≤ w.heap.size) :
  Calls Try.prog 125 #[.pointer (some ⟨b, 0, none⟩), .string s] w fun e w' => e = .returned (.tuple #[]) ∧ Pr B b wd (lacksB s q) (bs ++ sideL s q) w' ∧ Below B w w' ∧ KeepT b w w' := by
 have HQ := fun W => strings_HasSuffix.calls s ⟨#[10]⟩ q W hq
 have HP := Aside0.mk h
 have HBw := Aside0.mk hBw
 have HD := size_dataL s
 clear h hBw
 have hsz : (⟨#[10]⟩ : ByteArray).size = 1 := rfl
 have hlen2 : bs.length + s.size ≤ 140737488355328 := by omega
 have hlen3 : (bs ++ s.data.toList).length + (⟨#[10]⟩ : ByteArray).size ≤ 140737488355328 := by rw [List.length_append, HD, hsz]; omega
 go_enter Try.func125, Try.ntmps125
 go_wp2_with (first
  | (go_at_call_of 87 (Value.string s); refine (pr_write s HP.out hlen2 HBw.out).mono ?_; rintro e w1 ⟨rfl, hp1, hb1, hk1⟩; have f3 := hp1.fz 3; have d3 := hp1.lk; have HP1 := Aside0.mk hp1; have HB1 := Aside0.mk hb1; have HK1 := Aside0.mk hk1; clear HP hp1 hb1 hk1)
  | (go_at_call_of 87 (Value.string ⟨#[10]⟩); refine (pr_write ⟨#[10]⟩ (pr_step HP1.out nd true) hlen3 (pr_size HBw.out HB1.out nd true)).mono ?_; rintro e w3 ⟨rfl, hp3, hb3, hk3⟩; have HP3 := Aside0.mk hp3; have HB3 := Aside0.mk hb3; have HK3 := Aside0.mk hk3; clear hp3 hb3 hk3)
  | (go_at_call 115; refine (HQ _).mono ?_; rintro e w2 ⟨rfl, nd, rfl⟩))
 ·go_end0
  have hl : lacksB s q = false := by unfold lacksB; simp_all
  rw [hl]
  have hs : sideL s q = s.data.toList := by unfold sideL; rw [hl]; simp
  rw [hs]
  exact ⟨rfl, HP1.out.put false, Below.setCell (p := ⟨b, 3, none⟩) HB1.out HP1.out.lo _, HK1.out.set 3 _⟩
 ·go_end0
  have hl : lacksB s q = true := by unfold lacksB; simp_all
  rw [hl]
  have hs : sideL s q = s.data.toList ++ [10] := by unfold sideL; rw [hl]; rfl
  rw [hs, ← List.append_assoc]
  exact ⟨rfl, HP3.out, Below.trans (Below.setCell (p := ⟨b, 3, none⟩) (pw_below_drewN HB1.out nd) HP1.out.lo _) HB3.out, KeepT.trans ((HK1.out.drewN nd).set 3 _) HK3.out⟩
 ·go_end0
  have hl : (!s.toList.isEmpty && !q) = false := by simp_all
  rw [hl]
  have hl' : lacksB s q = false := hl
  rw [hl']
  have hs : sideL s q = s.data.toList := by unfold sideL; rw [hl']; simp
  rw [hs]
  exact ⟨rfl, pr_step HP1.out nd false, Below.setCell (p := ⟨b, 3, none⟩) (pw_below_drewN HB1.out nd) HP1.out.lo _, (HK1.out.drewN nd).set 3 _⟩
end Go.Proofs.Ytfiamddinkokbaa.F
end

section
set_option linter.unusedVariables false
set_option linter.unusedSimpArgs false
namespace Go.Proofs.Ytfiamddinkokbaa.F
open Go.RowKit Go.Shelf Go.Proofs.YtfiamddinkokbaaW.PrintWords
set_option linter.unusedVariables false
set_option linter.unusedSimpArgs false
theorem lineB_size (k : Int) (fl : Bool) (lb : ByteArray) (wd : Int) (h1 : wd ≤ 1073741824) : (lineB k fl lb wd).size ≤ 1073741824 + lb.size + 3 := by
 unfold lineB
 rw [ln_size_toB]
 simp only [List.length_append, List.length_replicate]
 have h2 : wd.toNat ≤ 1073741824 := by omega
 have h3 : (if fl = true then ([33] : List UInt8) else []).length ≤ 1 := by split <;> simp
 have h4 : (if lb.toList.isEmpty = true then ([] : List UInt8) else 32 :: lb.data.toList).length ≤ lb.size + 1 := by
  split
  ·simp
  ·simp only [List.length_cons, size_dataL]; omega
 simp only [List.length_singleton]
 omega
theorem sideL_length (s : ByteArray) (q : Bool) : (sideL s q).length ≤ s.size + 1 := by
 unfold sideL
 rw [List.length_append, size_dataL]
 split <;> simp
def lineL (k : Int) (fl : Bool) (lb : ByteArray) (wd : Int) : List UInt8 := (lineB k fl lb wd).data.toList
theorem lineL_length (k : Int) (fl : Bool) (lb : ByteArray) (wd : Int) (h1 : wd ≤ 1073741824) : (lineL k fl lb wd).length ≤ 1073741824 + lb.size + 3 := by
 unfold lineL; rw [size_dataL]; exact lineB_size k fl lb wd h1
def hunkL (wd : Int) (lk : Bool) (x : S106) (qL qB qR : Bool) : List UInt8 :=
 lineL 60 lk x.f0.f0 wd ++ sideL x.f3 qL ++ (if x.f6 = true then lineL 124 (lacksB x.f3 qL) x.f0.f1 wd ++ sideL x.f4 qB else []) ++
  lineL 61 (if x.f6 = true then lacksB x.f4 qB else lacksB x.f3 qL) ⟨#[]⟩ wd ++ sideL x.f5 qR ++ lineL 62 (lacksB x.f5 qR) x.f0.f2 wd
set_option maxHeartbeats 8000000 in
set_option maxRecDepth 100000 in
theorem pr_hunk {B b : Nat} {wd : Int} {lk : Bool} {bs : List UInt8} {w : World} (x : S106) (qL qB qR : Bool) (h : Pr B b wd lk bs w) (w0 : 0 ≤ wd) (w1 : wd ≤ 1073741824)
  (t0 : x.f0.f0.size ≤ 4000000000) (t1 : x.f0.f1.size ≤ 4000000000) (t2 : x.f0.f2.size ≤ 4000000000) (t3 : x.f3.size ≤ 4000000000) (t4 : x.f4.size ≤ 4000000000) (t5 : x.f5.size ≤ 4000000000)
  (eL : strings_HasSuffix.f x.f3 ⟨#[10]⟩ = some qL) (eB : strings_HasSuffix.f x.f4 ⟨#[10]⟩ = some qB) (eR : strings_HasSuffix.f x.f5 ⟨#[10]⟩ = some qR)
  (hlen : bs.length + 40000000000 ≤ 140737488355328) (hBw : B ≤ w.heap.size) :
  Calls Try.prog 88 #[.pointer (some ⟨b, 0, none⟩), .agg #[.string x.f0.f0, .string x.f0.f1, .string x.f0.f2, .bool x.f1, .string x.f2, .string x.f3, .string x.f4, .string x.f5, .bool x.f6]] w fun e w' =>
   e = .returned (.tuple #[]) ∧ Pr B b wd false (bs ++ hunkL wd lk x qL qB qR) w' ∧ Below B w w' ∧ KeepT b w w' := by
 obtain ⟨⟨l0, l1, l2⟩, hk, tx, s3, s4, s5, hb⟩ := x
 dsimp only at *
 have M := fun (k : Int) (lb : ByteArray) (lk : Bool) (bs : List UInt8) (W : World) (h0 : 0 ≤ k) (h1 : k < 128) (hl : lb.size ≤ 4000000000) (hlen : bs.length + 6000000000 ≤ 140737488355328) (hB : B ≤ W.heap.size) (h : Pr B b wd lk bs W) =>
  pr_marker k lb h h0 h1 w0 w1 hl (by have := lineB_size k lk lb wd w1; omega) hB
 have SD := fun (s : ByteArray) (q : Bool) (lk : Bool) (bs : List UInt8) (W : World) (hq : strings_HasSuffix.f s ⟨#[10]⟩ = some q) (hs : s.size ≤ 4000000000) (hlen : bs.length + 6000000000 ≤ 140737488355328) (hB : B ≤ W.heap.size) (h : Pr B b wd lk bs W) =>
  pr_side s q h hq (by omega) hB
 have HP := Aside0.mk (h.below (below_alloc (Below.refl w.heap.size w) (.cells #[.string l0, .string l1, .string l2, .bool hk, .string tx, .string s3, .string s4, .string s5, .bool hb] 106)))
 have HB := Aside0.mk (Below.mono (below_alloc (Below.refl w.heap.size w) (.cells #[.string l0, .string l1, .string l2, .bool hk, .string tx, .string s3, .string s4, .string s5, .bool hb] 106)) hBw)
 have HK := Aside0.mk (KeepT.below (b := b) (below_alloc (Below.refl w.heap.size w) (.cells #[.string l0, .string l1, .string l2, .bool hk, .string tx, .string s3, .string s4, .string s5, .bool hb] 106)))
 have hblk := World.alloc_heap_new w (.cells #[.string l0, .string l1, .string l2, .bool hk, .string tx, .string s3, .string s4, .string s5, .bool hb] 106)
 have hne : w.heap.size ≠ b := by have := h.lt; omega
 have hsz := HB.out.size
 have HN : Aside0 (bs.length + 40000000000 ≤ 140737488355328) := ⟨hlen⟩
 have tE : (⟨#[]⟩ : ByteArray).size ≤ 4000000000 := by decide
 generalize hn0 : w.heap.size = n0 at hblk hne
 generalize hW1 : w.alloc (.cells #[.string l0, .string l1, .string l2, .bool hk, .string tx, .string s3, .string s4, .string s5, .bool hb] 106) = W1 at *
 cases hb with
 | false =>
  have k0 := (blk_cell hblk 0).trans (rfl : _ = some (Value.string l0))
  have k1 := (blk_cell hblk 1).trans (rfl : _ = some (Value.string l1))
  have k2 := (blk_cell hblk 2).trans (rfl : _ = some (Value.string l2))
  have k5 := (blk_cell hblk 5).trans (rfl : _ = some (Value.string s3))
  have k6 := (blk_cell hblk 6).trans (rfl : _ = some (Value.string s4))
  have k7 := (blk_cell hblk 7).trans (rfl : _ = some (Value.string s5))
  have k8 := (blk_cell hblk 8).trans (rfl : _ = some (Value.bool false))
  go_enter Try.func88, Try.ntmps88
  go_wp2_with (first
   | (go_at_call_of 124 (Value.int .u8 60); refine (M 60 l0 _ _ _ (by omega) (by omega) t0 (by have := HN.out; omega) (Nat.le_trans hBw hsz) HP.out).mono ?_; rintro e W ⟨rfl, hp_, hb_, hk_⟩; replace hblk := hk_.cell hblk (by decide) hne; (try clear k0); (try clear k1); (try clear k2); (try clear k5); (try clear k6); (try clear k7); (try clear k8); have k0 := (blk_cell hblk 0).trans (rfl : _ = some (Value.string l0)); have k1 := (blk_cell hblk 1).trans (rfl : _ = some (Value.string l1)); have k2 := (blk_cell hblk 2).trans (rfl : _ = some (Value.string l2)); have k5 := (blk_cell hblk 5).trans (rfl : _ = some (Value.string s3)); have k6 := (blk_cell hblk 6).trans (rfl : _ = some (Value.string s4)); have k7 := (blk_cell hblk 7).trans (rfl : _ = some (Value.string s5)); have k8 := (blk_cell hblk 8).trans (rfl : _ = some (Value.bool false)); replace HP := Aside0.mk hp_; replace hsz := Nat.le_trans hsz hb_.size; replace HB := Aside0.mk (Below.trans HB.out hb_); replace HK := Aside0.mk (KeepT.trans HK.out hk_); clear hp_ hb_ hk_; replace HN : Aside0 ((bs ++ (lineB 60 lk l0 wd).data.toList).length + 34926258173 ≤ 140737488355328) := ⟨by rw [List.length_append, size_dataL]; have := lineB_size 60 lk l0 wd w1; have := HN.out; omega⟩)
   | (go_at_call_of 125 (Value.string s3); refine (SD s3 qL _ _ _ eL t3 (by have := HN.out; omega) (Nat.le_trans hBw hsz) HP.out).mono ?_; rintro e W ⟨rfl, hp_, hb_, hk_⟩; replace hblk := hk_.cell hblk (by decide) hne; (try clear k0); (try clear k1); (try clear k2); (try clear k5); (try clear k6); (try clear k7); (try clear k8); have k0 := (blk_cell hblk 0).trans (rfl : _ = some (Value.string l0)); have k1 := (blk_cell hblk 1).trans (rfl : _ = some (Value.string l1)); have k2 := (blk_cell hblk 2).trans (rfl : _ = some (Value.string l2)); have k5 := (blk_cell hblk 5).trans (rfl : _ = some (Value.string s3)); have k6 := (blk_cell hblk 6).trans (rfl : _ = some (Value.string s4)); have k7 := (blk_cell hblk 7).trans (rfl : _ = some (Value.string s5)); have k8 := (blk_cell hblk 8).trans (rfl : _ = some (Value.bool false)); replace HP := Aside0.mk hp_; replace hsz := Nat.le_trans hsz hb_.size; replace HB := Aside0.mk (Below.trans HB.out hb_); replace HK := Aside0.mk (KeepT.trans HK.out hk_); clear hp_ hb_ hk_; replace HN : Aside0 (((bs ++ (lineB 60 lk l0 wd).data.toList) ++ sideL s3 qL).length + 30926258172 ≤ 140737488355328) := ⟨by rw [List.length_append]; have := sideL_length s3 qL; have := HN.out; omega⟩)
   | (go_at_call_of 124 (Value.int .u8 61); refine (M 61 ⟨#[]⟩ _ _ _ (by omega) (by omega) tE (by have := HN.out; omega) (Nat.le_trans hBw hsz) HP.out).mono ?_; rintro e W ⟨rfl, hp_, hb_, hk_⟩; replace hblk := hk_.cell hblk (by decide) hne; (try clear k0); (try clear k1); (try clear k2); (try clear k5); (try clear k6); (try clear k7); (try clear k8); have k0 := (blk_cell hblk 0).trans (rfl : _ = some (Value.string l0)); have k1 := (blk_cell hblk 1).trans (rfl : _ = some (Value.string l1)); have k2 := (blk_cell hblk 2).trans (rfl : _ = some (Value.string l2)); have k5 := (blk_cell hblk 5).trans (rfl : _ = some (Value.string s3)); have k6 := (blk_cell hblk 6).trans (rfl : _ = some (Value.string s4)); have k7 := (blk_cell hblk 7).trans (rfl : _ = some (Value.string s5)); have k8 := (blk_cell hblk 8).trans (rfl : _ = some (Value.bool false)); replace HP := Aside0.mk hp_; replace hsz := Nat.le_trans hsz hb_.size; replace HB := Aside0.mk (Below.trans HB.out hb_); replace HK := Aside0.mk (KeepT.trans HK.out hk_); clear hp_ hb_ hk_; replace HN : Aside0 ((((bs ++ (lineB 60 lk l0 wd).data.toList) ++ sideL s3 qL) ++ (lineB 61 (lacksB s3 qL) ⟨#[]⟩ wd).data.toList).length + 25852516345 ≤ 140737488355328) := ⟨by rw [List.length_append, size_dataL]; have := lineB_size 61 (lacksB s3 qL) ⟨#[]⟩ wd w1; have := HN.out; omega⟩)
   | (go_at_call_of 125 (Value.string s5); refine (SD s5 qR _ _ _ eR t5 (by have := HN.out; omega) (Nat.le_trans hBw hsz) HP.out).mono ?_; rintro e W ⟨rfl, hp_, hb_, hk_⟩; replace hblk := hk_.cell hblk (by decide) hne; (try clear k0); (try clear k1); (try clear k2); (try clear k5); (try clear k6); (try clear k7); (try clear k8); have k0 := (blk_cell hblk 0).trans (rfl : _ = some (Value.string l0)); have k1 := (blk_cell hblk 1).trans (rfl : _ = some (Value.string l1)); have k2 := (blk_cell hblk 2).trans (rfl : _ = some (Value.string l2)); have k5 := (blk_cell hblk 5).trans (rfl : _ = some (Value.string s3)); have k6 := (blk_cell hblk 6).trans (rfl : _ = some (Value.string s4)); have k7 := (blk_cell hblk 7).trans (rfl : _ = some (Value.string s5)); have k8 := (blk_cell hblk 8).trans (rfl : _ = some (Value.bool false)); replace HP := Aside0.mk hp_; replace hsz := Nat.le_trans hsz hb_.size; replace HB := Aside0.mk (Below.trans HB.out hb_); replace HK := Aside0.mk (KeepT.trans HK.out hk_); clear hp_ hb_ hk_; replace HN : Aside0 (((((bs ++ (lineB 60 lk l0 wd).data.toList) ++ sideL s3 qL) ++ (lineB 61 (lacksB s3 qL) ⟨#[]⟩ wd).data.toList) ++ sideL s5 qR).length + 21852516344 ≤ 140737488355328) := ⟨by rw [List.length_append]; have := sideL_length s5 qR; have := HN.out; omega⟩)
   | (go_at_call_of 124 (Value.int .u8 62); refine (M 62 l2 _ _ _ (by omega) (by omega) t2 (by have := HN.out; omega) (Nat.le_trans hBw hsz) HP.out).mono ?_; rintro e W ⟨rfl, hp_, hb_, hk_⟩; replace hblk := hk_.cell hblk (by decide) hne; (try clear k0); (try clear k1); (try clear k2); (try clear k5); (try clear k6); (try clear k7); (try clear k8); have k0 := (blk_cell hblk 0).trans (rfl : _ = some (Value.string l0)); have k1 := (blk_cell hblk 1).trans (rfl : _ = some (Value.string l1)); have k2 := (blk_cell hblk 2).trans (rfl : _ = some (Value.string l2)); have k5 := (blk_cell hblk 5).trans (rfl : _ = some (Value.string s3)); have k6 := (blk_cell hblk 6).trans (rfl : _ = some (Value.string s4)); have k7 := (blk_cell hblk 7).trans (rfl : _ = some (Value.string s5)); have k8 := (blk_cell hblk 8).trans (rfl : _ = some (Value.bool false)); replace HP := Aside0.mk hp_; replace hsz := Nat.le_trans hsz hb_.size; replace HB := Aside0.mk (Below.trans HB.out hb_); replace HK := Aside0.mk (KeepT.trans HK.out hk_); clear hp_ hb_ hk_; replace HN : Aside0 ((((((bs ++ (lineB 60 lk l0 wd).data.toList) ++ sideL s3 qL) ++ (lineB 61 (lacksB s3 qL) ⟨#[]⟩ wd).data.toList) ++ sideL s5 qR) ++ (lineB 62 (lacksB s5 qR) l2 wd).data.toList).length + 16778774517 ≤ 140737488355328) := ⟨by rw [List.length_append, size_dataL]; have := lineB_size 62 (lacksB s5 qR) l2 wd w1; have := HN.out; omega⟩))
  go_end0
  refine ⟨rfl, ?_, HB.out, HK.out⟩
  have hp := HP.out
  simp only [List.append_assoc] at hp
  simp only [hunkL, lineL, List.append_assoc, if_true, if_false, List.nil_append, Bool.false_eq_true]
  exact hp
 | true =>
  have k0 := (blk_cell hblk 0).trans (rfl : _ = some (Value.string l0))
  have k1 := (blk_cell hblk 1).trans (rfl : _ = some (Value.string l1))
  have k2 := (blk_cell hblk 2).trans (rfl : _ = some (Value.string l2))
  have k5 := (blk_cell hblk 5).trans (rfl : _ = some (Value.string s3))
  have k6 := (blk_cell hblk 6).trans (rfl : _ = some (Value.string s4))
  have k7 := (blk_cell hblk 7).trans (rfl : _ = some (Value.string s5))
  have k8 := (blk_cell hblk 8).trans (rfl : _ = some (Value.bool true))
  go_enter Try.func88, Try.ntmps88
  go_wp2_with (first
   | (go_at_call_of 124 (Value.int .u8 60); refine (M 60 l0 _ _ _ (by omega) (by omega) t0 (by have := HN.out; omega) (Nat.le_trans hBw hsz) HP.out).mono ?_; rintro e W ⟨rfl, hp_, hb_, hk_⟩; replace hblk := hk_.cell hblk (by decide) hne; (try clear k0); (try clear k1); (try clear k2); (try clear k5); (try clear k6); (try clear k7); (try clear k8); have k0 := (blk_cell hblk 0).trans (rfl : _ = some (Value.string l0)); have k1 := (blk_cell hblk 1).trans (rfl : _ = some (Value.string l1)); have k2 := (blk_cell hblk 2).trans (rfl : _ = some (Value.string l2)); have k5 := (blk_cell hblk 5).trans (rfl : _ = some (Value.string s3)); have k6 := (blk_cell hblk 6).trans (rfl : _ = some (Value.string s4)); have k7 := (blk_cell hblk 7).trans (rfl : _ = some (Value.string s5)); have k8 := (blk_cell hblk 8).trans (rfl : _ = some (Value.bool true)); replace HP := Aside0.mk hp_; replace hsz := Nat.le_trans hsz hb_.size; replace HB := Aside0.mk (Below.trans HB.out hb_); replace HK := Aside0.mk (KeepT.trans HK.out hk_); clear hp_ hb_ hk_; replace HN : Aside0 ((bs ++ (lineB 60 lk l0 wd).data.toList).length + 34926258173 ≤ 140737488355328) := ⟨by rw [List.length_append, size_dataL]; have := lineB_size 60 lk l0 wd w1; have := HN.out; omega⟩)
   | (go_at_call_of 125 (Value.string s3); refine (SD s3 qL _ _ _ eL t3 (by have := HN.out; omega) (Nat.le_trans hBw hsz) HP.out).mono ?_; rintro e W ⟨rfl, hp_, hb_, hk_⟩; replace hblk := hk_.cell hblk (by decide) hne; (try clear k0); (try clear k1); (try clear k2); (try clear k5); (try clear k6); (try clear k7); (try clear k8); have k0 := (blk_cell hblk 0).trans (rfl : _ = some (Value.string l0)); have k1 := (blk_cell hblk 1).trans (rfl : _ = some (Value.string l1)); have k2 := (blk_cell hblk 2).trans (rfl : _ = some (Value.string l2)); have k5 := (blk_cell hblk 5).trans (rfl : _ = some (Value.string s3)); have k6 := (blk_cell hblk 6).trans (rfl : _ = some (Value.string s4)); have k7 := (blk_cell hblk 7).trans (rfl : _ = some (Value.string s5)); have k8 := (blk_cell hblk 8).trans (rfl : _ = some (Value.bool true)); replace HP := Aside0.mk hp_; replace hsz := Nat.le_trans hsz hb_.size; replace HB := Aside0.mk (Below.trans HB.out hb_); replace HK := Aside0.mk (KeepT.trans HK.out hk_); clear hp_ hb_ hk_; replace HN : Aside0 (((bs ++ (lineB 60 lk l0 wd).data.toList) ++ sideL s3 qL).length + 30926258172 ≤ 140737488355328) := ⟨by rw [List.length_append]; have := sideL_length s3 qL; have := HN.out; omega⟩)
   | (go_at_call_of 124 (Value.int .u8 124); refine (M 124 l1 _ _ _ (by omega) (by omega) t1 (by have := HN.out; omega) (Nat.le_trans hBw hsz) HP.out).mono ?_; rintro e W ⟨rfl, hp_, hb_, hk_⟩; replace hblk := hk_.cell hblk (by decide) hne; (try clear k0); (try clear k1); (try clear k2); (try clear k5); (try clear k6); (try clear k7); (try clear k8); have k0 := (blk_cell hblk 0).trans (rfl : _ = some (Value.string l0)); have k1 := (blk_cell hblk 1).trans (rfl : _ = some (Value.string l1)); have k2 := (blk_cell hblk 2).trans (rfl : _ = some (Value.string l2)); have k5 := (blk_cell hblk 5).trans (rfl : _ = some (Value.string s3)); have k6 := (blk_cell hblk 6).trans (rfl : _ = some (Value.string s4)); have k7 := (blk_cell hblk 7).trans (rfl : _ = some (Value.string s5)); have k8 := (blk_cell hblk 8).trans (rfl : _ = some (Value.bool true)); replace HP := Aside0.mk hp_; replace hsz := Nat.le_trans hsz hb_.size; replace HB := Aside0.mk (Below.trans HB.out hb_); replace HK := Aside0.mk (KeepT.trans HK.out hk_); clear hp_ hb_ hk_; replace HN : Aside0 ((((bs ++ (lineB 60 lk l0 wd).data.toList) ++ sideL s3 qL) ++ (lineB 124 (lacksB s3 qL) l1 wd).data.toList).length + 25852516345 ≤ 140737488355328) := ⟨by rw [List.length_append, size_dataL]; have := lineB_size 124 (lacksB s3 qL) l1 wd w1; have := HN.out; omega⟩)
   | (go_at_call_of 125 (Value.string s4); refine (SD s4 qB _ _ _ eB t4 (by have := HN.out; omega) (Nat.le_trans hBw hsz) HP.out).mono ?_; rintro e W ⟨rfl, hp_, hb_, hk_⟩; replace hblk := hk_.cell hblk (by decide) hne; (try clear k0); (try clear k1); (try clear k2); (try clear k5); (try clear k6); (try clear k7); (try clear k8); have k0 := (blk_cell hblk 0).trans (rfl : _ = some (Value.string l0)); have k1 := (blk_cell hblk 1).trans (rfl : _ = some (Value.string l1)); have k2 := (blk_cell hblk 2).trans (rfl : _ = some (Value.string l2)); have k5 := (blk_cell hblk 5).trans (rfl : _ = some (Value.string s3)); have k6 := (blk_cell hblk 6).trans (rfl : _ = some (Value.string s4)); have k7 := (blk_cell hblk 7).trans (rfl : _ = some (Value.string s5)); have k8 := (blk_cell hblk 8).trans (rfl : _ = some (Value.bool true)); replace HP := Aside0.mk hp_; replace hsz := Nat.le_trans hsz hb_.size; replace HB := Aside0.mk (Below.trans HB.out hb_); replace HK := Aside0.mk (KeepT.trans HK.out hk_); clear hp_ hb_ hk_; replace HN : Aside0 (((((bs ++ (lineB 60 lk l0 wd).data.toList) ++ sideL s3 qL) ++ (lineB 124 (lacksB s3 qL) l1 wd).data.toList) ++ sideL s4 qB).length + 21852516344 ≤ 140737488355328) := ⟨by rw [List.length_append]; have := sideL_length s4 qB; have := HN.out; omega⟩)
   | (go_at_call_of 124 (Value.int .u8 61); refine (M 61 ⟨#[]⟩ _ _ _ (by omega) (by omega) tE (by have := HN.out; omega) (Nat.le_trans hBw hsz) HP.out).mono ?_; rintro e W ⟨rfl, hp_, hb_, hk_⟩; replace hblk := hk_.cell hblk (by decide) hne; (try clear k0); (try clear k1); (try clear k2); (try clear k5); (try clear k6); (try clear k7); (try clear k8); have k0 := (blk_cell hblk 0).trans (rfl : _ = some (Value.string l0)); have k1 := (blk_cell hblk 1).trans (rfl : _ = some (Value.string l1)); have k2 := (blk_cell hblk 2).trans (rfl : _ = some (Value.string l2)); have k5 := (blk_cell hblk 5).trans (rfl : _ = some (Value.string s3)); have k6 := (blk_cell hblk 6).trans (rfl : _ = some (Value.string s4)); have k7 := (blk_cell hblk 7).trans (rfl : _ = some (Value.string s5)); have k8 := (blk_cell hblk 8).trans (rfl : _ = some (Value.bool true)); replace HP := Aside0.mk hp_; replace hsz := Nat.le_trans hsz hb_.size; replace HB := Aside0.mk (Below.trans HB.out hb_); replace HK := Aside0.mk (KeepT.trans HK.out hk_); clear hp_ hb_ hk_; replace HN : Aside0 ((((((bs ++ (lineB 60 lk l0 wd).data.toList) ++ sideL s3 qL) ++ (lineB 124 (lacksB s3 qL) l1 wd).data.toList) ++ sideL s4 qB) ++ (lineB 61 (lacksB s4 qB) ⟨#[]⟩ wd).data.toList).length + 16778774517 ≤ 140737488355328) := ⟨by rw [List.length_append, size_dataL]; have := lineB_size 61 (lacksB s4 qB) ⟨#[]⟩ wd w1; have := HN.out; omega⟩)
   | (go_at_call_of 125 (Value.string s5); refine (SD s5 qR _ _ _ eR t5 (by have := HN.out; omega) (Nat.le_trans hBw hsz) HP.out).mono ?_; rintro e W ⟨rfl, hp_, hb_, hk_⟩; replace hblk := hk_.cell hblk (by decide) hne; (try clear k0); (try clear k1); (try clear k2); (try clear k5); (try clear k6); (try clear k7); (try clear k8); have k0 := (blk_cell hblk 0).trans (rfl : _ = some (Value.string l0)); have k1 := (blk_cell hblk 1).trans (rfl : _ = some (Value.string l1)); have k2 := (blk_cell hblk 2).trans (rfl : _ = some (Value.string l2)); have k5 := (blk_cell hblk 5).trans (rfl : _ = some (Value.string s3)); have k6 := (blk_cell hblk 6).trans (rfl : _ = some (Value.string s4)); have k7 := (blk_cell hblk 7).trans (rfl : _ = some (Value.string s5)); have k8 := (blk_cell hblk 8).trans (rfl : _ = some (Value.bool true)); replace HP := Aside0.mk hp_; replace hsz := Nat.le_trans hsz hb_.size; replace HB := Aside0.mk (Below.trans HB.out hb_); replace HK := Aside0.mk (KeepT.trans HK.out hk_); clear hp_ hb_ hk_; replace HN : Aside0 (((((((bs ++ (lineB 60 lk l0 wd).data.toList) ++ sideL s3 qL) ++ (lineB 124 (lacksB s3 qL) l1 wd).data.toList) ++ sideL s4 qB) ++ (lineB 61 (lacksB s4 qB) ⟨#[]⟩ wd).data.toList) ++ sideL s5 qR).length + 12778774516 ≤ 140737488355328) := ⟨by rw [List.length_append]; have := sideL_length s5 qR; have := HN.out; omega⟩)
   | (go_at_call_of 124 (Value.int .u8 62); refine (M 62 l2 _ _ _ (by omega) (by omega) t2 (by have := HN.out; omega) (Nat.le_trans hBw hsz) HP.out).mono ?_; rintro e W ⟨rfl, hp_, hb_, hk_⟩; replace hblk := hk_.cell hblk (by decide) hne; (try clear k0); (try clear k1); (try clear k2); (try clear k5); (try clear k6); (try clear k7); (try clear k8); have k0 := (blk_cell hblk 0).trans (rfl : _ = some (Value.string l0)); have k1 := (blk_cell hblk 1).trans (rfl : _ = some (Value.string l1)); have k2 := (blk_cell hblk 2).trans (rfl : _ = some (Value.string l2)); have k5 := (blk_cell hblk 5).trans (rfl : _ = some (Value.string s3)); have k6 := (blk_cell hblk 6).trans (rfl : _ = some (Value.string s4)); have k7 := (blk_cell hblk 7).trans (rfl : _ = some (Value.string s5)); have k8 := (blk_cell hblk 8).trans (rfl : _ = some (Value.bool true)); replace HP := Aside0.mk hp_; replace hsz := Nat.le_trans hsz hb_.size; replace HB := Aside0.mk (Below.trans HB.out hb_); replace HK := Aside0.mk (KeepT.trans HK.out hk_); clear hp_ hb_ hk_; replace HN : Aside0 ((((((((bs ++ (lineB 60 lk l0 wd).data.toList) ++ sideL s3 qL) ++ (lineB 124 (lacksB s3 qL) l1 wd).data.toList) ++ sideL s4 qB) ++ (lineB 61 (lacksB s4 qB) ⟨#[]⟩ wd).data.toList) ++ sideL s5 qR) ++ (lineB 62 (lacksB s5 qR) l2 wd).data.toList).length + 7705032689 ≤ 140737488355328) := ⟨by rw [List.length_append, size_dataL]; have := lineB_size 62 (lacksB s5 qR) l2 wd w1; have := HN.out; omega⟩))
  go_end0
  refine ⟨rfl, ?_, HB.out, HK.out⟩
  have hp := HP.out
  simp only [List.append_assoc] at hp
  simp only [hunkL, lineL, List.append_assoc, if_true, if_false, List.nil_append, Bool.false_eq_true]
  exact hp
end Go.Proofs.Ytfiamddinkokbaa.F
end

section
set_option linter.unusedVariables false
set_option linter.unusedSimpArgs false
namespace Go.Proofs.Ytfiamddinkokbaa.F
open Go.RowKit Go.Shelf Go.Proofs.YtfiamddinkokbaaW.PrintWords
set_option linter.unusedVariables false
set_option linter.unusedSimpArgs false
def sufQ (s : ByteArray) : Bool := (strings_HasSuffix.f s ⟨#[10]⟩).getD false
def partL (wd : Int) (x : S106) : List UInt8 := x.f2.data.toList ++ (if x.f1 = true then hunkL wd false x (sufQ x.f3) (sufQ x.f4) (sufQ x.f5) else [])
def printL (wd : Int) (l : List S106) : List UInt8 := l.flatMap (partL wd)
def okPart (x : S106) : Bool := decide (x.f0.f0.size ≤ 4000000000) && (decide (x.f0.f1.size ≤ 4000000000) && (decide (x.f0.f2.size ≤ 4000000000) && (decide (x.f2.size ≤ 4000000000) && (decide (x.f3.size ≤ 4000000000) && (decide (x.f4.size ≤ 4000000000) && (decide (x.f5.size ≤ 4000000000) &&
 ((strings_HasSuffix.f x.f3 ⟨#[10]⟩).isSome && ((strings_HasSuffix.f x.f4 ⟨#[10]⟩).isSome && (strings_HasSuffix.f x.f5 ⟨#[10]⟩).isSome))))))))
def printF (k : Nat) (l : List S106) (wd : Int) : Option (ByteArray × Int) :=
 (mark_wide.f wd).bind fun t => if t = true then ((doc_Doc_Right.f k l).bind fun r => if r = true then ((doc_Doc_Fits.f k l wd).bind fun g =>
  if g = true then (if l.all okPart = true ∧ l.length ≤ 2000 ∧ 0 ≤ wd ∧ wd ≤ 1073741824 then some (toB (printL wd l), 0) else none) else some (⟨#[]⟩, 4)) else some (⟨#[]⟩, 11)) else some (⟨#[]⟩, 4)
theorem sufQ_some {s : ByteArray} (h : (strings_HasSuffix.f s ⟨#[10]⟩).isSome = true) : strings_HasSuffix.f s ⟨#[10]⟩ = some (sufQ s) := by
 unfold sufQ
 obtain ⟨q, hq⟩ := Option.isSome_iff_exists.1 h
 rw [hq]; rfl
theorem pr_new (B : Nat) (wd : Int) (W : World) (hB : B ≤ W.heap.size) : Pr B W.heap.size wd false [] (W.alloc (.cells #[.pointer none, .slice none 0 0, .int .i64 wd, .bool false] 129)) :=
 ⟨_, _, ⟨hB, World.alloc_heap_new _ _, rfl, rfl, .inl rfl, World.ownsRow_nil _ _ _ _, by simp [Value.ownBlock]⟩⟩
set_option maxHeartbeats 4000000 in
set_option maxRecDepth 100000 in
theorem print_wide (A : Option Addr) (c n : Nat) (wd : Int) (w : World) (e0 : mark_wide.f wd = some false) :
  Calls Try.prog 47 #[.slice A n c, .int .i64 wd] w fun e w' => e = .returned (.tuple #[.string ⟨#[]⟩, .int .i64 4]) ∧ Below w.heap.size w w' := by
 have H0 := fun W => mark_wide.calls wd false W e0
 have HB := Aside0.mk (Below.refl w.heap.size w)
 go_enter Try.func47, Try.ntmps47
 go_wp2_with (first | (go_at_call 86; refine (H0 _).mono ?_; rintro e w1 ⟨rfl, nd, rfl⟩))
 go_ret2
 exact ⟨rfl, pw_below_drewN HB.out nd⟩
set_option maxHeartbeats 4000000 in
set_option maxRecDepth 100000 in
theorem print_right (k : Nat) (A : Option Addr) (c : Nat) (l : List S106) (wd : Int) (w : World) (hr : Kd.C k106 w A l.length l) (hc : l.length ≤ c) (e0 : mark_wide.f wd = some true) (e1 : doc_Doc_Right.f k l = some false) :
  Calls Try.prog 47 #[.slice A l.length c, .int .i64 wd] w fun e w' => e = .returned (.tuple #[.string ⟨#[]⟩, .int .i64 11]) ∧ Below w.heap.size w w' := by
 have H0 := fun W => mark_wide.calls wd true W e0
 have H1 := fun W (hb : Below w.heap.size w W) => doc_Doc_Right.calls k A c l false W (Kd.C_below hr hb) hc e1
 have HB := Aside0.mk (Below.refl w.heap.size w)
 clear hr e1 e0
 go_enter Try.func47, Try.ntmps47
 go_wp2_with (first
  | (go_at_call 86; refine (H0 _).mono ?_; rintro e w1 ⟨rfl, nd, rfl⟩; replace HB := Aside0.mk (pw_below_drewN HB.out nd))
  | (go_at_call 72; refine (H1 _ HB.out).mono ?_; rintro e w2 ⟨rfl, hb⟩; replace HB := Aside0.mk (below_step HB.out hb); clear hb))
 go_ret2
 exact ⟨rfl, HB.out⟩
set_option maxHeartbeats 4000000 in
set_option maxRecDepth 100000 in
theorem print_fits (k : Nat) (A : Option Addr) (c : Nat) (l : List S106) (wd : Int) (w : World) (hr : Kd.C k106 w A l.length l) (hc : l.length ≤ c) (e0 : mark_wide.f wd = some true) (e1 : doc_Doc_Right.f k l = some true) (e2 : doc_Doc_Fits.f k l wd = some false) :
  Calls Try.prog 47 #[.slice A l.length c, .int .i64 wd] w fun e w' => e = .returned (.tuple #[.string ⟨#[]⟩, .int .i64 4]) ∧ Below w.heap.size w w' := by
 have H0 := fun W => mark_wide.calls wd true W e0
 have H1 := fun W (hb : Below w.heap.size w W) => doc_Doc_Right.calls k A c l true W (Kd.C_below hr hb) hc e1
 have H2 := fun W (hb : Below w.heap.size w W) => doc_Doc_Fits.calls k A c l wd false W (Kd.C_below hr hb) hc e2
 have HB := Aside0.mk (Below.refl w.heap.size w)
 clear hr e1 e0 e2
 go_enter Try.func47, Try.ntmps47
 go_wp2_with (first
  | (go_at_call 86; refine (H0 _).mono ?_; rintro e w1 ⟨rfl, nd, rfl⟩; replace HB := Aside0.mk (pw_below_drewN HB.out nd))
  | (go_at_call 72; refine (H1 _ HB.out).mono ?_; rintro e w2 ⟨rfl, hb⟩; replace HB := Aside0.mk (below_step HB.out hb); clear hb)
  | (go_at_call 73; refine (H2 _ HB.out).mono ?_; rintro e w2 ⟨rfl, hb⟩; replace HB := Aside0.mk (below_step HB.out hb); clear hb))
 go_ret2
 exact ⟨rfl, HB.out⟩
theorem pr_drew {B b : Nat} {wd : Int} {lk : Bool} {bs : List UInt8} {w : World} (h : Pr B b wd lk bs w) : Pr B b wd lk bs w.drew := h.below (below_drew1 (Below.refl _ _))
theorem partL_length (wd : Int) (w1 : wd ≤ 1073741824) (x : S106) (h : okPart x = true) : (partL wd x).length ≤ 45000000000 := by
 unfold okPart at h
 simp only [Bool.and_eq_true, decide_eq_true_eq] at h
 obtain ⟨z0, z1, z2, ztx, z3, z4, z5, _⟩ := h
 have hz : (⟨#[]⟩ : ByteArray).size = 0 := rfl
 unfold partL
 rw [List.length_append, size_dataL]
 split
 ·unfold hunkL
  simp only [List.length_append]
  have a0 := lineL_length 60 false x.f0.f0 wd w1
  have a1 := sideL_length x.f3 (sufQ x.f3)
  have a3 := lineL_length 61 (if x.f6 = true then lacksB x.f4 (sufQ x.f4) else lacksB x.f3 (sufQ x.f3)) ⟨#[]⟩ wd w1
  have a4 := sideL_length x.f5 (sufQ x.f5)
  have a5 := lineL_length 62 (lacksB x.f5 (sufQ x.f5)) x.f0.f2 wd w1
  have a6 : (if x.f6 = true then lineL 124 (lacksB x.f3 (sufQ x.f3)) x.f0.f1 wd ++ sideL x.f4 (sufQ x.f4) else []).length ≤ 10000000000 := by
   split
   ·rw [List.length_append]
    have b0 := lineL_length 124 (lacksB x.f3 (sufQ x.f3)) x.f0.f1 wd w1
    have b1 := sideL_length x.f4 (sufQ x.f4)
    omega
   ·simp
  omega
 ·simp; omega
theorem printL_length (wd : Int) (w1 : wd ≤ 1073741824) : ∀ l : List S106, (∀ x ∈ l, okPart x = true) → (printL wd l).length ≤ l.length * 45000000000
 | [], _ => by simp [printL]
 | x :: l, h => by
  have h1 := partL_length wd w1 x (h x (by simp))
  have h2 := printL_length wd w1 l (fun y hy => h y (by simp [hy]))
  have e : printL wd (x :: l) = partL wd x ++ printL wd l := by simp [printL]
  rw [e, List.length_append, List.length_cons]
  omega
set_option maxHeartbeats 8000000 in
set_option maxRecDepth 100000 in
theorem print_main (k : Nat) (A : Option Addr) (c : Nat) (l : List S106) (wd : Int) (w : World) (hr : Kd.C k106 w A l.length l) (hc : l.length ≤ c) (e0 : mark_wide.f wd = some true) (e1 : doc_Doc_Right.f k l = some true) (e2 : doc_Doc_Fits.f k l wd = some true)
  (hok : l.all okPart = true) (hn : l.length ≤ 2000) (w0 : 0 ≤ wd) (w1 : wd ≤ 1073741824) :
  Calls Try.prog 47 #[.slice A l.length c, .int .i64 wd] w fun e w' => e = .returned (.tuple #[.string (toB (printL wd l)), .int .i64 0]) ∧ Below w.heap.size w w' := by
 have H0 := fun W => mark_wide.calls wd true W e0
 have H1 := fun W (hb : Below w.heap.size w W) => doc_Doc_Right.calls k A c l true W (Kd.C_below hr hb) hc e1
 have H2 := fun W (hb : Below w.heap.size w W) => doc_Doc_Fits.calls k A c l wd true W (Kd.C_below hr hb) hc e2
 have HR := Aside0.mk hr
 have HB := Aside0.mk (Below.refl w.heap.size w)
 clear hr e1 e0 e2
 go_enter Try.func47, Try.ntmps47
 go_wp2_with (first
  | (go_at_call 86; refine (H0 _).mono ?_; rintro e w1 ⟨rfl, nd, rfl⟩; replace HB := Aside0.mk (pw_below_drewN HB.out nd))
  | (go_at_call 72; refine (H1 _ HB.out).mono ?_; rintro e w2 ⟨rfl, hb⟩; replace HB := Aside0.mk (below_step HB.out hb); clear hb)
  | (go_at_call 73; refine (H2 _ HB.out).mono ?_; rintro e w2 ⟨rfl, hb⟩; replace HB := Aside0.mk (below_step HB.out hb); clear hb))
 have HP := Aside0.mk (pr_new w.heap.size wd w2 HB.out.size)
 replace HB := Aside0.mk (below_step HB.out (below_alloc (Below.refl w2.heap.size w2) (.cells #[.pointer none, .slice none 0 0, .int .i64 wd, .bool false] 129)))
 clear H0 H1 H2
 generalize w2.alloc (.cells #[.pointer none, .slice none 0 0, .int .i64 wd, .bool false] 129) = W at HP HB ⊢
 generalize w2.heap.size = b at HP ⊢
 go_loopg [27] l.length (fun gg s27 wr => ∃ kk : Nat, kk ≤ l.length ∧ l.length - kk ≤ gg ∧ s27 = .int .i64 kk ∧ Aside0 (Below w.heap.size w wr) ∧ Aside0 (Pr w.heap.size b wd false (printL wd (l.take kk)) wr))
 case atStart => exact ⟨0, Nat.zero_le _, by omega, rfl, HB, HP⟩
 case round =>
  clear HB HP
  obtain ⟨kk, hkk, hg, rfl, HB, HP⟩ := hrel
  by_cases hlt : kk < l.length
  ·have hltz : (kk : Int) < (l.length : Int) := by omega
   have p0 : (0 : Int) ≤ (kk : Int) := by omega
   obtain ⟨ad, rfl, hx0, hx1, hx2, hx3, hx4, hx5, hx6, hx7, hx8⟩ := at_T106 (Kd.C_below HR.out HB.out) (kk : Int) p0 hltz
   have hrd : rd_T106 l (kk : Int) = l.getD kk z106 := rfl
   rw [Int.toNat_natCast] at hx0 hx1 hx2 hx3 hx4 hx5 hx6 hx7 hx8
   rw [hrd] at hx0 hx1 hx2 hx3 hx4 hx5 hx6 hx7 hx8
   generalize hy : l.getD kk z106 = y at hx0 hx1 hx2 hx3 hx4 hx5 hx6 hx7 hx8
   obtain ⟨⟨l0, l1, l2⟩, hk, tx, s3, s4, s5, hb⟩ := y
   have hmem : (⟨⟨l0, l1, l2⟩, hk, tx, s3, s4, s5, hb⟩ : S106) ∈ l := by
    rw [← hy, List.getD_eq_getElem?_getD, List.getElem?_eq_getElem hlt]; exact List.getElem_mem hlt
   have ho := List.all_eq_true.1 hok _ hmem
   unfold okPart at ho
   simp only [Bool.and_eq_true, decide_eq_true_eq] at ho
   obtain ⟨z0, z1, z2, ztx, z3, z4, z5, q3, q4, q5⟩ := ho
   have hlen := printL_length wd w1 (l.take kk) (fun x hx => List.all_eq_true.1 hok x (List.mem_of_mem_take hx))
   have hlen2 : (l.take kk).length ≤ 2000 := by rw [List.length_take]; omega
   have hlen3 : (printL wd (l.take kk)).length ≤ 2000 * 45000000000 := Nat.le_trans hlen (Nat.mul_le_mul_right _ hlen2)
   have hstep : printL wd (l.take (kk + 1)) = printL wd (l.take kk) ++ partL wd ⟨⟨l0, l1, l2⟩, hk, tx, s3, s4, s5, hb⟩ := by
    rw [List.take_add_one, List.getElem?_eq_getElem hlt]
    have : l[kk] = ⟨⟨l0, l1, l2⟩, hk, tx, s3, s4, s5, hb⟩ := by rw [← hy, List.getD_eq_getElem?_getD, List.getElem?_eq_getElem hlt]; rfl
    simp [printL, this]
   have HS := Aside0.mk hstep
   have HQ3 := Aside0.mk (sufQ_some q3)
   have HQ4 := Aside0.mk (sufQ_some q4)
   have HQ5 := Aside0.mk (sufQ_some q5)
   generalize printL wd (l.take kk) = cur at HP hlen3 HS
   clear hstep q3 q4 q5 hlen hlen2 hmem hy hrd
   go_wp2_with fail
   have hblk := World.alloc_heap_new wr (.cells #[.string l0, .string l1, .string l2, .bool hk, .string tx, .string s3, .string s4, .string s5, .bool hb] 106)
   have hne : wr.heap.size ≠ b := by have := HP.out.lt; omega
   replace HP := Aside0.mk (HP.out.below (below_alloc (Below.refl wr.heap.size wr) (.cells #[.string l0, .string l1, .string l2, .bool hk, .string tx, .string s3, .string s4, .string s5, .bool hb] 106)))
   replace HB := Aside0.mk (below_step HB.out (below_alloc (Below.refl wr.heap.size wr) (.cells #[.string l0, .string l1, .string l2, .bool hk, .string tx, .string s3, .string s4, .string s5, .bool hb] 106)))
   clear hx0 hx1 hx2 hx3 hx4 hx5 hx6 hx7 hx8
   generalize wr.alloc (.cells #[.string l0, .string l1, .string l2, .bool hk, .string tx, .string s3, .string s4, .string s5, .bool hb] 106) = W2 at *
   generalize wr.heap.size = nb at *
   have k4 := (blk_cell hblk 4).trans (rfl : _ = some (Value.string tx))
   go_region_with ((first
    | (go_at_call 87; refine (pr_write (w := W2.drew) tx (pr_drew HP.out) (by omega) HB.out.size).mono ?_; rintro e W3 ⟨rfl, hp_, hb_, hk_⟩)))
   have hblk3 := hk_.cell (show W2.drew.heap[nb]? = _ from hblk) (by decide) hne
   have j0 := (blk_cell hblk3 0).trans (rfl : _ = some (Value.string l0))
   have j1 := (blk_cell hblk3 1).trans (rfl : _ = some (Value.string l1))
   have j2 := (blk_cell hblk3 2).trans (rfl : _ = some (Value.string l2))
   have j3 := (blk_cell hblk3 3).trans (rfl : _ = some (Value.bool hk))
   have j4 := (blk_cell hblk3 4).trans (rfl : _ = some (Value.string tx))
   have j5 := (blk_cell hblk3 5).trans (rfl : _ = some (Value.string s3))
   have j6 := (blk_cell hblk3 6).trans (rfl : _ = some (Value.string s4))
   have j7 := (blk_cell hblk3 7).trans (rfl : _ = some (Value.string s5))
   have j8 := (blk_cell hblk3 8).trans (rfl : _ = some (Value.bool hb))
   have HP3 := Aside0.mk hp_
   have HB3 := Aside0.mk (below_weaken HB.out (Nat.le_refl _) (pr_drawn hb_))
   clear hblk k4 hp_ hb_ hk_ HP HB hblk3
   generalize ht3 : tx.data.toList = txl at HP3
   have htl : txl.length = tx.size := by rw [← ht3]; exact size_dataL tx
   cases hk with
   | false =>
    go_wp2
    go_roundg (l.length - (kk + 1))
    case measure => omega
    case rel =>
     refine ⟨kk + 1, by omega, by omega, by go_num, HB3, ⟨?_⟩⟩
     rw [HS.out]
     have : partL wd ⟨⟨l0, l1, l2⟩, false, tx, s3, s4, s5, hb⟩ = txl := by unfold partL; simp [ht3]
     rw [this]; exact HP3.out
   | true =>
    go_wp2_with (first
     | (go_at_call 88; refine (pr_hunk ⟨⟨l0, l1, l2⟩, true, tx, s3, s4, s5, hb⟩ _ _ _ HP3.out w0 w1 z0 z1 z2 z3 z4 z5 HQ3.out HQ4.out HQ5.out (by rw [List.length_append]; omega) HB3.out.size).mono ?_; rintro e W4 ⟨rfl, hp4, hb4, _⟩))
    go_roundg (l.length - (kk + 1))
    case measure => omega
    case rel =>
     refine ⟨kk + 1, by omega, by omega, by go_num, ⟨below_weaken HB3.out (Nat.le_refl _) hb4⟩, ⟨?_⟩⟩
     rw [HS.out]
     have : partL wd ⟨⟨l0, l1, l2⟩, true, tx, s3, s4, s5, hb⟩ = txl ++ hunkL wd false ⟨⟨l0, l1, l2⟩, true, tx, s3, s4, s5, hb⟩ (sufQ s3) (sufQ s4) (sufQ s5) := by unfold partL; simp [ht3]
     rw [this, ← List.append_assoc]; exact hp4
  ·obtain rfl : kk = l.length := by omega
   have q1 : ((l.length : Int) < (l.length : Int)) = False := by simp
   rw [List.take_length] at HP
   obtain ⟨p_, v_, hbld⟩ := HP.out
   have HS2 := fun hB => bld_string hbld hB
   go_wp2_with (first
    | (go_at_call 89; refine (HS2 HB.out.size).mono ?_; rintro e W5 ⟨rfl, hb5, _⟩))
   go_ret2
   exact ⟨rfl, below_weaken HB.out (Nat.le_refl _) hb5⟩
theorem print_calls (k : Nat) (A : Option Addr) (c : Nat) (l : List S106) (wd : Int) (r1 : ByteArray) (r2 : Int) (w : World) (hr : Kd.C k106 w A l.length l) (hc : l.length ≤ c) (h : printF k l wd = some (r1, r2)) :
  Calls Try.prog 47 #[.slice A l.length c, .int .i64 wd] w fun e w' => e = .returned (.tuple #[.string r1, .int .i64 r2]) ∧ Below w.heap.size w w' := by
 unfold printF at h
 obtain ⟨t, e0, h⟩ := Option.bind_eq_some_iff.1 h
 cases t with
 | false =>
  rw [if_neg (by decide)] at h
  cases h
  exact print_wide A c l.length wd w e0
 | true =>
  rw [if_pos rfl] at h
  obtain ⟨r, e1, h⟩ := Option.bind_eq_some_iff.1 h
  cases r with
  | false =>
   rw [if_neg (by decide)] at h
   cases h
   exact print_right k A c l wd w hr hc e0 e1
  | true =>
   rw [if_pos rfl] at h
   obtain ⟨g, e2, h⟩ := Option.bind_eq_some_iff.1 h
   cases g with
   | false =>
    rw [if_neg (by decide)] at h
    cases h
    exact print_fits k A c l wd w hr hc e0 e1 e2
   | true =>
    rw [if_pos rfl] at h
    split at h
    ·rename_i hx
     cases h
     exact print_main k A c l wd w hr hc e0 e1 e2 hx.1 hx.2.1 hx.2.2.1 hx.2.2.2
    ·cases h
theorem print_mono : ∀ l wd k, LeO (printF k l wd) (printF (k + 1) l wd) := by
 intro l wd k
 unfold printF
 refine LeO.bind (LeO.refl _) (fun _ => ?_)
 refine LeO.ite ?_ (LeO.refl _)
 refine LeO.bind (doc_Doc_Right.mono _ _) (fun _ => ?_)
 refine LeO.ite ?_ (LeO.refl _)
 refine LeO.bind (doc_Doc_Fits.mono _ _ _) (fun _ => LeO.refl _)
#print axioms print_calls
end Go.Proofs.Ytfiamddinkokbaa.F
end

section
set_option linter.unusedVariables false
set_option linter.unusedSimpArgs false
namespace Go.Proofs.Ytfiamddinkokbaa.F
open Go.RowKit Go.Proofs.YtfiamddinkokbaaW.PrintWords Go.Proofs.YtfiamddinkokbaaW.PrintLast Go.Proofs.YtfiamddinkokbaaW.PrintMore
attribute [local go_sem] max2_int min2_int max_two min_two max_three min_three max_four min_four
set_option linter.unusedVariables false
set_option linter.unusedSimpArgs false
def mark_Print.f (k : Nat) (l0 : List S106) (a1 : Int) : Option (ByteArray × Int) := printF k l0 a1
theorem mark_Print.mono : ∀ l0 a1 k, LeO (mark_Print.f k l0 a1) (mark_Print.f (k + 1) l0 a1) := print_mono
theorem mark_Print.calls (k : Nat) (A0 : Option Addr) (c0 : Nat) (l0 : List (S106)) (a1 : Int) (r1 : ByteArray) (r2 : Int) (w : World) (hr0 : Kd.C k106 w A0 l0.length l0) (hc0 : l0.length ≤ c0) (h : mark_Print.f k l0 a1 = some (r1, r2)) :
  Calls Try.prog 47 #[.slice A0 l0.length c0, .int .i64 a1] w fun e w' => e = .returned (.tuple #[.string r1, .int .i64 r2]) ∧ Below w.heap.size w w' := by
 exact print_calls k A0 c0 l0 a1 r1 r2 w hr0 hc0 h
end Go.Proofs.Ytfiamddinkokbaa.F
end

section
set_option linter.unusedVariables false
set_option linter.unusedSimpArgs false
namespace Go.Proofs.Ytfiamddinkokbaa.F
open Go.RowKit Go.Proofs.YtfiamddinkokbaaW.PrintWords Go.Proofs.YtfiamddinkokbaaW.PrintLast Go.Proofs.YtfiamddinkokbaaW.PrintMore
attribute [local go_sem] max2_int min2_int max_two min_two max_three min_three max_four min_four
set_option linter.unusedVariables false
set_option linter.unusedSimpArgs false
attribute [local go_sem high] eqA109
end Go.Proofs.Ytfiamddinkokbaa.F
end

section
set_option linter.unusedVariables false
set_option linter.unusedSimpArgs false
namespace Go.Proofs.Ytfiamddinkokbaa.F
open Go.RowKit Go.Proofs.YtfiamddinkokbaaW.PrintWords Go.Proofs.YtfiamddinkokbaaW.PrintLast Go.Proofs.YtfiamddinkokbaaW.PrintMore
attribute [local go_sem] max2_int min2_int max_two min_two max_three min_three max_four min_four
set_option linter.unusedVariables false
set_option linter.unusedSimpArgs false
end Go.Proofs.Ytfiamddinkokbaa.F
end

section
set_option linter.unusedVariables false
set_option linter.unusedSimpArgs false
namespace Go.Proofs.Ytfiamddinkokbaa.F
open Go.RowKit Go.Proofs.YtfiamddinkokbaaW.PrintWords Go.Proofs.YtfiamddinkokbaaW.PrintLast Go.Proofs.YtfiamddinkokbaaW.PrintMore
attribute [local go_sem] max2_int min2_int max_two min_two max_three min_three max_four min_four
set_option linter.unusedVariables false
set_option linter.unusedSimpArgs false
end Go.Proofs.Ytfiamddinkokbaa.F
end

section
set_option linter.unusedVariables false
set_option linter.unusedSimpArgs false
namespace Go.Proofs.Ytfiamddinkokbaa.F
open Go.RowKit Go.Proofs.YtfiamddinkokbaaW.PrintWords Go.Proofs.YtfiamddinkokbaaW.PrintLast Go.Proofs.YtfiamddinkokbaaW.PrintMore
attribute [local go_sem] max2_int min2_int max_two min_two max_three min_three max_four min_four
set_option linter.unusedVariables false
set_option linter.unusedSimpArgs false
end Go.Proofs.Ytfiamddinkokbaa.F
end

section
set_option linter.unusedVariables false
set_option linter.unusedSimpArgs false
namespace Go.Proofs.Ytfiamddinkokbaa.F
open Go.RowKit Go.Proofs.YtfiamddinkokbaaW.PrintWords Go.Proofs.YtfiamddinkokbaaW.PrintLast Go.Proofs.YtfiamddinkokbaaW.PrintMore
attribute [local go_sem] max2_int min2_int max_two min_two max_three min_three max_four min_four
set_option linter.unusedVariables false
set_option linter.unusedSimpArgs false
end Go.Proofs.Ytfiamddinkokbaa.F
end

section
set_option linter.unusedVariables false
set_option linter.unusedSimpArgs false
namespace Go.Proofs.Ytfiamddinkokbaa.F
open Go.RowKit Go.Proofs.YtfiamddinkokbaaW.PrintWords Go.Proofs.YtfiamddinkokbaaW.PrintLast Go.Proofs.YtfiamddinkokbaaW.PrintMore
attribute [local go_sem] max2_int min2_int max_two min_two max_three min_three max_four min_four
set_option linter.unusedVariables false
set_option linter.unusedSimpArgs false
def chunk_Of.f (k : Nat) (a0 : Int) (a1 : Int) (a2 : Int) (l3 : List S196) (l4 : List S196) : Option ((List S91) × Int) := ofF k a0 a1 a2 l3 l4
theorem chunk_Of.mono : ∀ a0 a1 a2 l3 l4 k, LeO (chunk_Of.f k a0 a1 a2 l3 l4) (chunk_Of.f (k + 1) a0 a1 a2 l3 l4) := of_mono
theorem chunk_Of.calls (k : Nat) (a0 : Int) (a1 : Int) (a2 : Int) (A3 : Option Addr) (c3 : Nat) (l3 : List (S196)) (A4 : Option Addr) (c4 : Nat) (l4 : List (S196)) (r1 : List (S91)) (r2 : Int) (w : World) (hr3 : Kd.C k196 w A3 l3.length l3) (hc3 : l3.length ≤ c3) (hr4 : Kd.C k196 w A4 l4.length l4) (hc4 : l4.length ≤ c4) (h : chunk_Of.f k a0 a1 a2 l3 l4 = some (r1, r2)) :
  Calls Try.prog 103 #[.int .i64 a0, .int .i64 a1, .int .i64 a2, .slice A3 l3.length c3, .slice A4 l4.length c4] w fun e w' => ∃ v0_ : Value, e = .returned (.tuple #[v0_, .int .i64 r2]) ∧ Kd.R k91 91 w' w.heap.size (fun _ => True) v0_ r1 ∧ Below w.heap.size w w' := by
 exact of_calls k a0 a1 a2 A3 c3 l3 A4 c4 l4 r1 r2 w hr3 hc3 hr4 hc4 h
end Go.Proofs.Ytfiamddinkokbaa.F
end

section
set_option linter.unusedVariables false
set_option linter.unusedSimpArgs false
namespace Go.Proofs.Ytfiamddinkokbaa.F
open Go.RowKit Go.Proofs.YtfiamddinkokbaaW.PrintWords Go.Proofs.YtfiamddinkokbaaW.PrintLast Go.Proofs.YtfiamddinkokbaaW.PrintMore
attribute [local go_sem] max2_int min2_int max_two min_two max_three min_three max_four min_four
set_option linter.unusedVariables false
set_option linter.unusedSimpArgs false
def slices_Clone_string_string.f (l0 : List ByteArray) : Option (List ByteArray) := if l0.length ≤ 4000000000 then some l0 else none
theorem slices_Clone_string_string.calls (A0 : Option Addr) (c0 : Nat) (l0 : List ByteArray) (r : List ByteArray) (w : World) (hr0 : Kd.C Kd.string w A0 l0.length l0) (hc0 : l0.length ≤ c0) (h : slices_Clone_string_string.f l0 = some r) :
  Calls Try.prog 108 #[.slice A0 l0.length c0] w fun e w' => ∃ v0_ : Value, e = .returned (v0_) ∧ Kd.R Kd.string 9 w' w.heap.size (fun _ => True) v0_ r ∧ Below w.heap.size w w' := by
 exact ext_clone A0 c0 l0 r w hr0 hc0 h
end Go.Proofs.Ytfiamddinkokbaa.F
end

section
set_option linter.unusedVariables false
set_option linter.unusedSimpArgs false
namespace Go.Proofs.Ytfiamddinkokbaa.F
open Go.RowKit Go.Proofs.YtfiamddinkokbaaW.PrintWords Go.Proofs.YtfiamddinkokbaaW.PrintLast Go.Proofs.YtfiamddinkokbaaW.PrintMore
attribute [local go_sem] max2_int min2_int max_two min_two max_three min_three max_four min_four
set_option linter.unusedVariables false
set_option linter.unusedSimpArgs false
def chunk_Span_Cut.f (a0_0 : Int) (a0_1 : Int) (l1 : List ByteArray) : Option (List ByteArray) := if a0_0 < 0 then (some ([] : List ByteArray)) else (if a0_1 > (l1.length : Int) then (some ([] : List ByteArray)) else (if a0_1 < a0_0 then (some ([] : List ByteArray)) else (if 0 ≤ a0_0 then (if a0_0 ≤ a0_1 then (if a0_1 ≤ (l1.length : Int) then ((slices_Clone_string_string.f ((l1.take (a0_1 : Int).toNat).drop (a0_0 : Int).toNat)).bind fun t493 => (some t493)) else (none)) else (none)) else (none))))
set_option maxHeartbeats 8000000 in
set_option maxRecDepth 100000 in
theorem chunk_Span_Cut.calls (a0_0 : Int) (a0_1 : Int) (A1 : Option Addr) (c1 : Nat) (l1 : List ByteArray) (r : List ByteArray) (w : World) (hr1 : Kd.C Kd.string w A1 l1.length l1) (hc1 : l1.length ≤ c1) (h : chunk_Span_Cut.f a0_0 a0_1 l1 = some r) :
  Calls Try.prog 60 #[.agg #[.int .i64 a0_0, .int .i64 a0_1], .slice A1 l1.length c1] w fun e w' => ∃ v0_ : Value, e = .returned (v0_) ∧ Kd.R Kd.string 9 w' w.heap.size (fun _ => True) v0_ r ∧ Below w.heap.size w w' := by
 have hu89 := Try.underlying89
 have HR1 := Aside0.mk hr1
 have HC1 := Aside0.mk hc1
 clear hr1 hc1
 have HB := Aside0.mk (Below.refl w.heap.size w)
 have H : (if a0_0 < 0 then (some ([] : List ByteArray)) else (if a0_1 > (l1.length : Int) then (some ([] : List ByteArray)) else (if a0_1 < a0_0 then (some ([] : List ByteArray)) else (if 0 ≤ a0_0 then (if a0_0 ≤ a0_1 then (if a0_1 ≤ (l1.length : Int) then ((slices_Clone_string_string.f ((l1.take (a0_1 : Int).toNat).drop (a0_0 : Int).toNat)).bind fun t493 => (some t493)) else (none)) else (none)) else (none))))) = some r := h
 clear h
 by_cases c3 : a0_0 < 0
 ·rw [if_pos c3] at H
  have c3b0 : decide (a0_0 < 0) = true := decide_eq_true c3
  clear c3
  obtain rfl := Option.some.inj H
  go_enter Try.func60, Try.ntmps60
  go_wp2_with (first | ((with_reducible refine gate_dst (N := 2) rfl ?_); (try (refine gate_guard (by rfl) ?_; dsimp only)); refine box_event ?hg (N := 2) ?hd (cs := #[.int .i64 a0_0, .int .i64 a0_1]) (t := 89) ?hr ?_; (case hd => rfl); (case hg => rfl); (case hr => first | (go_simp; done) | (go_simp; rfl)); intro gb491 hg w4 hbox hb; have n0_ := Aside0.mk (below_step (by repeat (first | (with_reducible first | exact HB.out | apply below_alloc | apply pw_below_drewN | apply below_drew1) | exact HB.out)) hb); have n1_ := Aside0.mk (hbox); have n2_ := Aside0.mk ((by rw [hg]; exact (below_size (by repeat (first | (with_reducible first | exact HB.out | apply below_alloc | apply pw_below_drewN | apply below_drew1) | exact HB.out))) : w.heap.size ≤ gb491)); have n3_ := Aside0.mk ((by rw [hg]; exact (below_size (by repeat (first | (with_reducible first | exact HB.out | apply below_alloc | apply pw_below_drewN | apply below_drew1) | exact HB.out))) : w.heap.size ≤ gb491)); clear HB; have HB := n0_; have BK491 := n1_; have GW491 := n2_; have GE491 := n3_; clear n0_ n1_ n2_ n3_; clear hb hbox hg; have hcz5_0 : w4.cell? ⟨gb491, 0, none⟩ = some (.int .i64 a0_0) := (blk_cell BK491.out 0).trans rfl; have hcz5_1 : w4.cell? ⟨gb491, 1, none⟩ = some (.int .i64 a0_1) := (blk_cell BK491.out 1).trans rfl; have hfz5_0 := blk_frozen BK491.out 0; have hfz5_1 := blk_frozen BK491.out 1))
  go_ret
  exact ⟨_, by first | rfl | (simp [errW_none, errW_some] <;> rfl) | (simp [*, errW_none, errW_some] <;> rfl), by first | exact Kd.R_nil _ _ _ _ _ | exact Kd.N_nil _ _ _ _ _ | exact Kd.V_nil _ _ _ _ _ | exact Kd.Q_nil _ _ _ _ _ | exact Kd.S_nil _ _ _ _ _, by repeat (first | (with_reducible first | exact HB.out | apply below_alloc | apply pw_below_drewN | apply below_drew1 | refine below_set ?_ GE491.out) | exact HB.out)⟩
 ·rw [if_neg c3] at H
  have c3b0 : decide (a0_0 < 0) = false := decide_eq_false c3
  clear c3
  by_cases c6 : a0_1 > (l1.length : Int)
  ·rw [if_pos c6] at H
   have c6b0 : decide ((l1.length : Int) < a0_1) = true := decide_eq_true c6
   clear c6
   obtain rfl := Option.some.inj H
   go_enter Try.func60, Try.ntmps60
   go_wp2_with (first | ((with_reducible refine gate_dst (N := 2) rfl ?_); (try (refine gate_guard (by rfl) ?_; dsimp only)); refine box_event ?hg (N := 2) ?hd (cs := #[.int .i64 a0_0, .int .i64 a0_1]) (t := 89) ?hr ?_; (case hd => rfl); (case hg => rfl); (case hr => first | (go_simp; done) | (go_simp; rfl)); intro gb491 hg w7 hbox hb; have n0_ := Aside0.mk (below_step (by repeat (first | (with_reducible first | exact HB.out | apply below_alloc | apply pw_below_drewN | apply below_drew1) | exact HB.out)) hb); have n1_ := Aside0.mk (hbox); have n2_ := Aside0.mk ((by rw [hg]; exact (below_size (by repeat (first | (with_reducible first | exact HB.out | apply below_alloc | apply pw_below_drewN | apply below_drew1) | exact HB.out))) : w.heap.size ≤ gb491)); have n3_ := Aside0.mk ((by rw [hg]; exact (below_size (by repeat (first | (with_reducible first | exact HB.out | apply below_alloc | apply pw_below_drewN | apply below_drew1) | exact HB.out))) : w.heap.size ≤ gb491)); clear HB; have HB := n0_; have BK491 := n1_; have GW491 := n2_; have GE491 := n3_; clear n0_ n1_ n2_ n3_; clear hb hbox hg; have hcz8_0 : w7.cell? ⟨gb491, 0, none⟩ = some (.int .i64 a0_0) := (blk_cell BK491.out 0).trans rfl; have hcz8_1 : w7.cell? ⟨gb491, 1, none⟩ = some (.int .i64 a0_1) := (blk_cell BK491.out 1).trans rfl; have hfz8_0 := blk_frozen BK491.out 0; have hfz8_1 := blk_frozen BK491.out 1))
   go_ret
   exact ⟨_, by first | rfl | (simp [errW_none, errW_some] <;> rfl) | (simp [*, errW_none, errW_some] <;> rfl), by first | exact Kd.R_nil _ _ _ _ _ | exact Kd.N_nil _ _ _ _ _ | exact Kd.V_nil _ _ _ _ _ | exact Kd.Q_nil _ _ _ _ _ | exact Kd.S_nil _ _ _ _ _, by repeat (first | (with_reducible first | exact HB.out | apply below_alloc | apply pw_below_drewN | apply below_drew1 | refine below_set ?_ GE491.out) | exact HB.out)⟩
  ·rw [if_neg c6] at H
   have c6b0 : decide ((l1.length : Int) < a0_1) = false := decide_eq_false c6
   clear c6
   by_cases c9 : a0_1 < a0_0
   ·rw [if_pos c9] at H
    have c9b0 : decide (a0_1 < a0_0) = true := decide_eq_true c9
    clear c9
    obtain rfl := Option.some.inj H
    go_enter Try.func60, Try.ntmps60
    go_wp2_with (first | ((with_reducible refine gate_dst (N := 2) rfl ?_); (try (refine gate_guard (by rfl) ?_; dsimp only)); refine box_event ?hg (N := 2) ?hd (cs := #[.int .i64 a0_0, .int .i64 a0_1]) (t := 89) ?hr ?_; (case hd => rfl); (case hg => rfl); (case hr => first | (go_simp; done) | (go_simp; rfl)); intro gb491 hg w10 hbox hb; have n0_ := Aside0.mk (below_step (by repeat (first | (with_reducible first | exact HB.out | apply below_alloc | apply pw_below_drewN | apply below_drew1) | exact HB.out)) hb); have n1_ := Aside0.mk (hbox); have n2_ := Aside0.mk ((by rw [hg]; exact (below_size (by repeat (first | (with_reducible first | exact HB.out | apply below_alloc | apply pw_below_drewN | apply below_drew1) | exact HB.out))) : w.heap.size ≤ gb491)); have n3_ := Aside0.mk ((by rw [hg]; exact (below_size (by repeat (first | (with_reducible first | exact HB.out | apply below_alloc | apply pw_below_drewN | apply below_drew1) | exact HB.out))) : w.heap.size ≤ gb491)); clear HB; have HB := n0_; have BK491 := n1_; have GW491 := n2_; have GE491 := n3_; clear n0_ n1_ n2_ n3_; clear hb hbox hg; have hcz11_0 : w10.cell? ⟨gb491, 0, none⟩ = some (.int .i64 a0_0) := (blk_cell BK491.out 0).trans rfl; have hcz11_1 : w10.cell? ⟨gb491, 1, none⟩ = some (.int .i64 a0_1) := (blk_cell BK491.out 1).trans rfl; have hfz11_0 := blk_frozen BK491.out 0; have hfz11_1 := blk_frozen BK491.out 1))
    go_ret
    exact ⟨_, by first | rfl | (simp [errW_none, errW_some] <;> rfl) | (simp [*, errW_none, errW_some] <;> rfl), by first | exact Kd.R_nil _ _ _ _ _ | exact Kd.N_nil _ _ _ _ _ | exact Kd.V_nil _ _ _ _ _ | exact Kd.Q_nil _ _ _ _ _ | exact Kd.S_nil _ _ _ _ _, by repeat (first | (with_reducible first | exact HB.out | apply below_alloc | apply pw_below_drewN | apply below_drew1 | refine below_set ?_ GE491.out) | exact HB.out)⟩
   ·rw [if_neg c9] at H
    have c9b0 : decide (a0_1 < a0_0) = false := decide_eq_false c9
    clear c9
    by_cases c12 : 0 ≤ a0_0
    ·rw [if_pos c12] at H
     have c12b0 := eq_true c12
     have c12b1 : decide (0 ≤ a0_0) = true := decide_eq_true c12
     clear c12
     by_cases c13 : a0_0 ≤ a0_1
     ·rw [if_pos c13] at H
      have c13b0 := eq_true c13
      have c13b1 : decide (a0_0 ≤ a0_1) = true := decide_eq_true c13
      clear c13
      by_cases c14 : a0_1 ≤ (l1.length : Int)
      ·rw [if_pos c14] at H
       have c14b0 := eq_true c14
       have c14b1 : decide (a0_1 ≤ (l1.length : Int)) = true := decide_eq_true c14
       clear c14
       replace H := Option.bind_eq_some_iff.mp H
       obtain ⟨t493, A150, H⟩ := H
       replace H : (some t493) = some r := H
       have A15 := Aside0.mk A150
       clear A150
       obtain rfl := Option.some.inj H
       go_enter Try.func60, Try.ntmps60
       go_wp2_with (first | ((with_reducible refine gate_dst (N := 2) rfl ?_); (try (refine gate_guard (by rfl) ?_; dsimp only)); refine box_event ?hg (N := 2) ?hd (cs := #[.int .i64 a0_0, .int .i64 a0_1]) (t := 89) ?hr ?_; (case hd => rfl); (case hg => rfl); (case hr => first | (go_simp; done) | (go_simp; rfl)); intro gb491 hg w16 hbox hb; have n0_ := Aside0.mk (below_step (by repeat (first | (with_reducible first | exact HB.out | apply below_alloc | apply pw_below_drewN | apply below_drew1) | exact HB.out)) hb); have n1_ := Aside0.mk (hbox); have n2_ := Aside0.mk ((by rw [hg]; exact (below_size (by repeat (first | (with_reducible first | exact HB.out | apply below_alloc | apply pw_below_drewN | apply below_drew1) | exact HB.out))) : w.heap.size ≤ gb491)); have n3_ := Aside0.mk ((by rw [hg]; exact (below_size (by repeat (first | (with_reducible first | exact HB.out | apply below_alloc | apply pw_below_drewN | apply below_drew1) | exact HB.out))) : w.heap.size ≤ gb491)); clear HB; have HB := n0_; have BK491 := n1_; have GW491 := n2_; have GE491 := n3_; clear n0_ n1_ n2_ n3_; clear hb hbox hg; have hcz17_0 : w16.cell? ⟨gb491, 0, none⟩ = some (.int .i64 a0_0) := (blk_cell BK491.out 0).trans rfl; have hcz17_1 : w16.cell? ⟨gb491, 1, none⟩ = some (.int .i64 a0_1) := (blk_cell BK491.out 1).trans rfl; have hfz17_0 := blk_frozen BK491.out 0; have hfz17_1 := blk_frozen BK491.out 1; obtain ⟨i018, hi018, _, hsz18, _⟩ := info_parts info9; obtain ⟨A18, hcut18, hA18, hC18⟩ := print_mid_of (P := Try.prog) Value.string (⟨#[]⟩ : ByteArray) 36 9 .i64 .i64 Try.underlying36 hi018 hsz18 A1 c1 l1 a0_0 a0_1 (of_decide_eq_true (by first | (with_reducible assumption) | assumption)) (by first | omega | exact of_decide_eq_true (by first | (with_reducible assumption) | assumption)) (of_decide_eq_true (by first | (with_reducible assumption) | assumption)) HC1.out; have HR492 := Aside0.mk (Kd.C_of_reads (h1 := fun _ => rfl) (hA18 _ (Kd.reads_of_C HR1.out))); have HC492 := Aside0.mk hC18; clear hA18 hC18 hi018 hsz18) | ((with_reducible refine gate_callee (f := 108) rfl ?_); refine goesL_ (some 28) rfl rfl Try.func108 (by kernel_rfl) rfl #[.slice A18 ((l1.take (a0_1 : Int).toNat).drop (a0_0 : Int).toNat).length (c1 - a0_0.toNat)] rfl (by (try simp only [List.map_toArray, List.map_cons, List.map_nil]); first | done | (rw [show ((l1.take (a0_1 : Int).toNat).drop (a0_0 : Int).toNat).length = (a0_1.toNat - a0_0.toNat) from (by rw [List.length_drop, List.length_take]; have h_ : (a0_1 : Int) ≤ (l1.length : Int) := of_decide_eq_true (by first | (with_reducible assumption) | assumption); omega)] <;> rfl) | rfl | (simp only [List.length_drop, List.length_take]; rfl)) ?_; (with_reducible refine (slices_Clone_string_string.calls _ _ ((l1.take (a0_1 : Int).toNat).drop (a0_0 : Int).toNat) t493 _ ?side1 ?side2 A15.out).mono ?_); (case side1 => repeat (first | exact (Kd.C_below HR492.out HB.out) | (with_reducible refine Kd.C_alloc ?_ _) | (with_reducible refine Kd.C_drewN ?_ _) | (with_reducible refine Kd.C_drew ?_))); (case side2 => exact HC492.out); rintro e w19 ⟨v494, rfl, ho0, hb⟩; refine ⟨_, rfl, ?_⟩; have n0_ := Aside0.mk (Kd.R_lower ho0 (below_size (by repeat (first | (with_reducible first | exact HB.out | apply below_alloc | apply pw_below_drewN | apply below_drew1 | refine below_set ?_ GE491.out) | exact HB.out)))); have n1_ := Aside0.mk (blk_below (g := gb491) (o := .cells #[.int .i64 a0_0, .int .i64 a0_1] 89 (0, 0)) (by (with_reducible repeat (first | refine blk_drewN ?_ _ | refine blk_drew ?_ | refine blk_alloc ?_ _)); exact BK491.out) hb); have n2_ := Aside0.mk (below_step (by repeat (first | (with_reducible first | exact HB.out | apply below_alloc | apply pw_below_drewN | apply below_drew1 | refine below_set ?_ GE491.out) | exact HB.out)) hb); clear BK491; clear HB; have HO495 := n0_; have BK491 := n1_; have HB := n2_; clear n0_ n1_ n2_; (try clear hb); (try clear hb2); (try clear hk); (try clear hi); (try clear ho0)))
       go_ret
       exact ⟨_, by first | rfl | (simp [errW_none, errW_some] <;> rfl) | (simp [*, errW_none, errW_some] <;> rfl), by (with_reducible repeat (first | apply Kd.R_alloc | apply Kd.R_drewN | apply Kd.R_drew)); exact HO495.out, by repeat (first | (with_reducible first | exact HB.out | apply below_alloc | apply pw_below_drewN | apply below_drew1 | refine below_set ?_ GE491.out) | exact HB.out)⟩
      ·rw [if_neg c14] at H
       exact absurd H (by simp)
     ·rw [if_neg c13] at H
      exact absurd H (by simp)
    ·rw [if_neg c12] at H
     exact absurd H (by simp)
end Go.Proofs.Ytfiamddinkokbaa.F
end

section
set_option linter.unusedVariables false
set_option linter.unusedSimpArgs false
namespace Go.Proofs.Ytfiamddinkokbaa.F
open Go.RowKit Go.Proofs.YtfiamddinkokbaaW.PrintWords Go.Proofs.YtfiamddinkokbaaW.PrintLast Go.Proofs.YtfiamddinkokbaaW.PrintMore
attribute [local go_sem] max2_int min2_int max_two min_two max_three min_three max_four min_four
set_option linter.unusedVariables false
set_option linter.unusedSimpArgs false
def slices_Equal_string_string.l0 : Nat → List ByteArray → List ByteArray → Int → Int → Option (Bool)
 | 0, _, _, _, _ => none
 | k + 1, x0, x1, x12, x13 => if x13 < x12 then (if 0 ≤ x13 then (if x13 < (x0.length : Int) then (if x13 < (x1.length : Int) then (if (rdOf ByteArray.empty x0 x13).toList = (rdOf ByteArray.empty x1 x13).toList then (slices_Equal_string_string.l0 k x0 x1 x12 (wrap64 (x13 + 1))) else (some false)) else (none)) else (none)) else (none)) else (some true)
def slices_Equal_string_string.f (k : Nat) (l0 : List ByteArray) (l1 : List ByteArray) : Option (Bool) := if (l0.length : Int) = (l1.length : Int) then (slices_Equal_string_string.l0 k l0 l1 (l0.length : Int) 0) else (some false)
theorem slices_Equal_string_string.mono_l : ∀ k, (∀ y0 y1 y2 y3, LeO (slices_Equal_string_string.l0 k y0 y1 y2 y3) (slices_Equal_string_string.l0 (k + 1) y0 y1 y2 y3))
 | 0 => fun _ _ _ _ r h => by simp [slices_Equal_string_string.l0] at h
 | k + 1 => by
  have ih0 := slices_Equal_string_string.mono_l k
  ·intro y0 y1 y2 y3
   unfold slices_Equal_string_string.l0
   repeat' first
   | (with_reducible exact ih0 _ _ _ _)
   | (with_reducible exact LeO.refl _)
   | (with_reducible exact LeO.none _)
   | (with_reducible refine LeO.ite ?_ ?_)
   | (with_reducible refine LeO.bind ?_ (fun _ => ?_))
   | exact ih0 _ _ _ _
   | exact LeO.none _
   | refine LeO.ite ?_ ?_
   | refine LeO.bind ?_ (fun _ => ?_)
theorem slices_Equal_string_string.mono : ∀ a0 a1 k, LeO (slices_Equal_string_string.f k a0 a1) (slices_Equal_string_string.f (k + 1) a0 a1) := by
 intro a0 a1 k
 have ih0 := slices_Equal_string_string.mono_l k
 unfold slices_Equal_string_string.f
 repeat' first
   | (with_reducible exact ih0 _ _ _ _)
   | (with_reducible exact LeO.refl _)
   | (with_reducible exact LeO.none _)
   | (with_reducible refine LeO.ite ?_ ?_)
   | (with_reducible refine LeO.bind ?_ (fun _ => ?_))
   | exact ih0 _ _ _ _
   | exact LeO.none _
   | refine LeO.ite ?_ ?_
   | refine LeO.bind ?_ (fun _ => ?_)
set_option maxHeartbeats 8000000 in
set_option maxRecDepth 100000 in
theorem slices_Equal_string_string.calls (k : Nat) (A0 : Option Addr) (c0 : Nat) (l0 : List ByteArray) (A1 : Option Addr) (c1 : Nat) (l1 : List ByteArray) (r : Bool) (w : World) (hr0 : Kd.C Kd.string w A0 l0.length l0) (hc0 : l0.length ≤ c0) (hr1 : Kd.C Kd.string w A1 l1.length l1) (hc1 : l1.length ≤ c1) (h : slices_Equal_string_string.f k l0 l1 = some r) :
  Calls Try.prog 138 #[.slice A0 l0.length c0, .slice A1 l1.length c1] w fun e w' => e = .returned (.bool r) ∧ Drawn0 w w' := by
 have HR0 := Aside0.mk hr0
 have HC0 := Aside0.mk hc0
 clear hr0 hc0
 have HR1 := Aside0.mk hr1
 have HC1 := Aside0.mk hc1
 clear hr1 hc1
 have H : (if (l0.length : Int) = (l1.length : Int) then (slices_Equal_string_string.l0 k l0 l1 (l0.length : Int) 0) else (some false)) = some r := h
 clear h
 by_cases c3 : (l0.length : Int) = (l1.length : Int)
 ·rw [if_pos c3] at H
  have c3b0 : ((l0.length : Int) == (l1.length : Int)) = true := beq_iff_eq.mpr c3
  have c3b1 : ((l0.length : Int) != (l1.length : Int)) = false := bne_eq_false_iff_eq.mpr c3
  have c3b2 : (l0.length == l1.length) = true := by first | simpa using c3 | (simp at c3 ⊢; omega)
  clear c3
  have H' := Aside0.mk H
  clear H
  go_enter Try.func138, Try.ntmps138
  go_wp2
  repeat (go_quiet (fail); try go_wp2)
  go_loopg [13] k (fun kq v13 w' => ∃ (x13_1 : Int), v13 = .int .i64 x13_1 ∧ Aside0 (slices_Equal_string_string.l0 kq l0 l1 (l0.length : Int) x13_1 = some r) ∧ Aside0 (kq ≤ k) ∧ Drawn0 w w')
  case atStart => exact ⟨(0), (by first | rfl | (simp; done) | (simp [*]; done)), H', ⟨Nat.le_refl _⟩, by repeat (first | exact Drawn0.refl _ | apply Drawn0.step)⟩
  case round =>
   clear H'
   try clear c1
   try clear p2
   try clear c3
   try clear c3b0
   try clear c3b1
   try clear c3b2
   obtain ⟨x13_1, rfl, HA, HK1, ⟨m1, rfl⟩⟩ := hrel
   cases gk with
   | zero => exact absurd HA.out (by simp [slices_Equal_string_string.l0])
   | succ k1 =>
    have H := HA.out
    clear HA
    simp only [slices_Equal_string_string.l0] at H
    by_cases c4 : x13_1 < (l0.length : Int)
    ·rw [if_pos c4] at H
     have c4b0 : decide (x13_1 < (l0.length : Int)) = true := decide_eq_true c4
     clear c4
     by_cases c5 : 0 ≤ x13_1
     ·rw [if_pos c5] at H
      have c5b0 : decide (0 ≤ x13_1) = true := decide_eq_true c5
      clear c5
      by_cases c6 : x13_1 < (l0.length : Int)
      ·rw [if_pos c6] at H
       have c6b0 : decide (x13_1 < (l0.length : Int)) = true := decide_eq_true c6
       clear c6
       by_cases c7 : x13_1 < (l1.length : Int)
       ·rw [if_pos c7] at H
        have c7b0 : decide (x13_1 < (l1.length : Int)) = true := decide_eq_true c7
        clear c7
        by_cases c8 : (rdOf ByteArray.empty l0 x13_1).toList = (rdOf ByteArray.empty l1 x13_1).toList
        ·rw [if_pos c8] at H
         have c8b0 : ((rdOf ByteArray.empty l0 x13_1).toList == (rdOf ByteArray.empty l1 x13_1).toList) = true := beq_iff_eq.mpr c8
         have c8b1 : ((rdOf ByteArray.empty l0 x13_1).toList != (rdOf ByteArray.empty l1 x13_1).toList) = false := bne_eq_false_iff_eq.mpr c8
         clear c8
         have H' := Aside0.mk H
         clear H
         have p506 : 0 ≤ (x13_1 : Int) := of_decide_eq_true (by first | (with_reducible assumption) | assumption)
         have q506 : x13_1 < (l0.length : Int) := of_decide_eq_true (by first | (with_reducible assumption) | assumption)
         obtain ⟨ad506, e506, hx506_0⟩ := Kd.at_string HR0.out x13_1 p506 q506
         cases e506
         replace p506 := eq_true p506
         replace q506 := eq_true q506
         have p507 : 0 ≤ (x13_1 : Int) := of_decide_eq_true (by first | (with_reducible assumption) | assumption)
         have q507 : x13_1 < (l1.length : Int) := of_decide_eq_true (by first | (with_reducible assumption) | assumption)
         obtain ⟨ad507, e507, hx507_0⟩ := Kd.at_string HR1.out x13_1 p507 q507
         cases e507
         replace p507 := eq_true p507
         replace q507 := eq_true q507
         go_wp2
         repeat (go_quiet (fail); try go_wp2)
         go_roundg k1
         case measure => have := HK1.out; omega
         case rel => exact ⟨(wrap64 (x13_1 + 1)), (by first | rfl | (simp; done) | (simp [*]; done)), H', ⟨by have := HK1.out; omega⟩, by repeat (first | exact Drawn0.refl _ | apply Drawn0.step)⟩
        ·rw [if_neg c8] at H
         have c8b0 : ((rdOf ByteArray.empty l0 x13_1).toList == (rdOf ByteArray.empty l1 x13_1).toList) = false := beq_eq_false_iff_ne.mpr c8
         have c8b1 : ((rdOf ByteArray.empty l0 x13_1).toList != (rdOf ByteArray.empty l1 x13_1).toList) = true := bne_iff_ne.mpr c8
         obtain rfl := Option.some.inj H
         have p506 : 0 ≤ (x13_1 : Int) := of_decide_eq_true (by first | (with_reducible assumption) | assumption)
         have q506 : x13_1 < (l0.length : Int) := of_decide_eq_true (by first | (with_reducible assumption) | assumption)
         obtain ⟨ad506, e506, hx506_0⟩ := Kd.at_string HR0.out x13_1 p506 q506
         cases e506
         replace p506 := eq_true p506
         replace q506 := eq_true q506
         have p507 : 0 ≤ (x13_1 : Int) := of_decide_eq_true (by first | (with_reducible assumption) | assumption)
         have q507 : x13_1 < (l1.length : Int) := of_decide_eq_true (by first | (with_reducible assumption) | assumption)
         obtain ⟨ad507, e507, hx507_0⟩ := Kd.at_string HR1.out x13_1 p507 q507
         cases e507
         replace p507 := eq_true p507
         replace q507 := eq_true q507
         go_wp2
         repeat (go_quiet (fail); try go_wp2)
         go_ret
         exact ⟨by first | rfl | (simp; done) | (simp [*]; done), by repeat (first | exact Drawn0.refl _ | apply Drawn0.step)⟩
       ·rw [if_neg c7] at H
        exact absurd H (by simp)
      ·rw [if_neg c6] at H
       exact absurd H (by simp)
     ·rw [if_neg c5] at H
      exact absurd H (by simp)
    ·rw [if_neg c4] at H
     have c4b0 : decide (x13_1 < (l0.length : Int)) = false := decide_eq_false c4
     clear c4
     obtain rfl := Option.some.inj H
     go_wp2
     repeat (go_quiet (fail); try go_wp2)
     go_ret
     exact ⟨by first | rfl | (simp; done) | (simp [*]; done), by repeat (first | exact Drawn0.refl _ | apply Drawn0.step)⟩
 ·rw [if_neg c3] at H
  have c3b0 : ((l0.length : Int) == (l1.length : Int)) = false := beq_eq_false_iff_ne.mpr c3
  have c3b1 : ((l0.length : Int) != (l1.length : Int)) = true := bne_iff_ne.mpr c3
  have c3b2 : (l0.length == l1.length) = false := by first | simpa using c3 | (simp at c3 ⊢; omega)
  obtain rfl := Option.some.inj H
  go_enter Try.func138, Try.ntmps138
  go_wp2
  repeat (go_quiet (fail); try go_wp2)
  go_ret
  exact ⟨by first | rfl | (simp; done) | (simp [*]; done), by repeat (first | exact Drawn0.refl _ | apply Drawn0.step)⟩
end Go.Proofs.Ytfiamddinkokbaa.F
end

section
set_option linter.unusedVariables false
set_option linter.unusedSimpArgs false
namespace Go.Proofs.Ytfiamddinkokbaa.F
open Go.RowKit Go.Proofs.YtfiamddinkokbaaW.PrintWords Go.Proofs.YtfiamddinkokbaaW.PrintLast Go.Proofs.YtfiamddinkokbaaW.PrintMore
attribute [local go_sem] max2_int min2_int max_two min_two max_three min_three max_four min_four
set_option linter.unusedVariables false
set_option linter.unusedSimpArgs false
def trim_Same_string.f (k : Nat) (l0 : List ByteArray) (l1 : List ByteArray) : Option (Bool) := (slices_Equal_string_string.f k l0 l1).bind fun t508 => (some t508)
theorem trim_Same_string.mono : ∀ a0 a1 k, LeO (trim_Same_string.f k a0 a1) (trim_Same_string.f (k + 1) a0 a1) := by
 intro a0 a1 k
 unfold trim_Same_string.f
 repeat' first
   | (with_reducible exact slices_Equal_string_string.mono _ _ _)
   | (with_reducible exact LeO.refl _)
   | (with_reducible exact LeO.none _)
   | (with_reducible refine LeO.ite ?_ ?_)
   | (with_reducible refine LeO.bind ?_ (fun _ => ?_))
   | exact slices_Equal_string_string.mono _ _ _
   | exact LeO.none _
   | refine LeO.ite ?_ ?_
   | refine LeO.bind ?_ (fun _ => ?_)
set_option maxHeartbeats 8000000 in
set_option maxRecDepth 100000 in
theorem trim_Same_string.calls (k : Nat) (A0 : Option Addr) (c0 : Nat) (l0 : List ByteArray) (A1 : Option Addr) (c1 : Nat) (l1 : List ByteArray) (r : Bool) (w : World) (hr0 : Kd.C Kd.string w A0 l0.length l0) (hc0 : l0.length ≤ c0) (hr1 : Kd.C Kd.string w A1 l1.length l1) (hc1 : l1.length ≤ c1) (h : trim_Same_string.f k l0 l1 = some r) :
  Calls Try.prog 109 #[.slice A0 l0.length c0, .slice A1 l1.length c1] w fun e w' => e = .returned (.bool r) ∧ Drawn0 w w' := by
 have HR0 := Aside0.mk hr0
 have HC0 := Aside0.mk hc0
 clear hr0 hc0
 have HR1 := Aside0.mk hr1
 have HC1 := Aside0.mk hc1
 clear hr1 hc1
 have H : ((slices_Equal_string_string.f k l0 l1).bind fun t508 => (some t508)) = some r := h
 clear h
 replace H := Option.bind_eq_some_iff.mp H
 obtain ⟨t508, A30, H⟩ := H
 replace H : (some t508) = some r := H
 have A3 := Aside0.mk A30
 clear A30
 obtain rfl := Option.some.inj H
 go_enter Try.func109, Try.ntmps109
 go_wp2_with (first | ((with_reducible refine gate_callee (f := 138) rfl ?_); refine goesL_ (some 7) rfl rfl Try.func138 (by kernel_rfl) rfl #[.slice A0 l0.length c0, .slice A1 l1.length c1] rfl (by (try simp only [List.map_toArray, List.map_cons, List.map_nil]); first | done | rfl | (simp only [List.length_drop, List.length_take]; rfl)) ?_; (with_reducible refine (slices_Equal_string_string.calls k _ _ l0 _ _ l1 t508 _ ?side1 ?side2 ?side3 ?side4 A3.out).mono ?_); (case side1 => repeat (first | exact HR0.out | (with_reducible refine Kd.C_alloc ?_ _) | (with_reducible refine Kd.C_drewN ?_ _) | (with_reducible refine Kd.C_drew ?_))); (case side2 => exact HC0.out); (case side3 => repeat (first | exact HR1.out | (with_reducible refine Kd.C_alloc ?_ _) | (with_reducible refine Kd.C_drewN ?_ _) | (with_reducible refine Kd.C_drew ?_))); (case side4 => exact HC1.out); rintro e w' ⟨rfl, ⟨nd, rfl⟩⟩; refine ⟨_, rfl, ?_⟩))
 go_ret
 exact ⟨by first | rfl | (simp; done) | (simp [*]; done), by repeat (first | exact Drawn0.refl _ | apply Drawn0.step)⟩
end Go.Proofs.Ytfiamddinkokbaa.F
end

section
set_option linter.unusedVariables false
set_option linter.unusedSimpArgs false
namespace Go.Proofs.Ytfiamddinkokbaa.F
open Go.RowKit Go.Shelf Go.Proofs.YtfiamddinkokbaaW.PrintWords
set_option linter.unusedVariables false
set_option linter.unusedSimpArgs false
def classF (k : Nat) (a0_0 : Bool) (a0_1 a0_2 a0_3 a0_4 a0_5 a0_6 : Int) (l1 l2 l3 : List ByteArray) : Option Int := (chunk_Span_Cut.f a0_1 a0_2 l1).bind fun t510 => ((chunk_Span_Cut.f a0_3 a0_4 l2).bind fun t513 => ((chunk_Span_Cut.f a0_5 a0_6 l3).bind fun t516 => (if a0_0 = true then (some 0) else ((trim_Same_string.f k t510 t513).bind fun t519 => (if t519 = true then (some 2) else ((trim_Same_string.f k t510 t516).bind fun t520 => (if t520 = true then (some 1) else ((trim_Same_string.f k t513 t516).bind fun t521 => (if t521 = true then (some 3) else (some 4))))))))))
theorem class_mono : ∀ a0 a1 a2 a3 a4 a5 a6 l1 l2 l3 k, LeO (classF k a0 a1 a2 a3 a4 a5 a6 l1 l2 l3) (classF (k + 1) a0 a1 a2 a3 a4 a5 a6 l1 l2 l3) := fun a0 a1 a2 a3 a4 a5 a6 l1 l2 l3 k => by
 unfold classF
 exact LeO.bind (LeO.refl _) (fun _ => LeO.bind (LeO.refl _) (fun _ => LeO.bind (LeO.refl _) (fun _ => LeO.ite (LeO.refl _) (LeO.bind (trim_Same_string.mono _ _ k) (fun _ => LeO.ite (LeO.refl _) (LeO.bind (trim_Same_string.mono _ _ k) (fun _ => LeO.ite (LeO.refl _) (LeO.bind (trim_Same_string.mono _ _ k) (fun _ => LeO.refl _)))))))))
set_option maxHeartbeats 8000000 in
set_option maxRecDepth 100000 in
theorem class_calls (k : Nat) (a0_0 : Bool) (a0_1 a0_2 a0_3 a0_4 a0_5 a0_6 : Int) (A1 : Option Addr) (c1 : Nat) (l1 : List ByteArray) (A2 : Option Addr) (c2 : Nat) (l2 : List ByteArray) (A3 : Option Addr) (c3 : Nat) (l3 : List ByteArray) (r : Int) (w : World) (hr1 : Kd.C Kd.string w A1 l1.length l1) (hc1 : l1.length ≤ c1) (hr2 : Kd.C Kd.string w A2 l2.length l2) (hc2 : l2.length ≤ c2) (hr3 : Kd.C Kd.string w A3 l3.length l3) (hc3 : l3.length ≤ c3)
  (h : classF k a0_0 a0_1 a0_2 a0_3 a0_4 a0_5 a0_6 l1 l2 l3 = some r) :
  Calls Try.prog 61 #[.agg #[.bool a0_0, .int .i64 a0_1, .int .i64 a0_2, .int .i64 a0_3, .int .i64 a0_4, .int .i64 a0_5, .int .i64 a0_6], .slice A1 l1.length c1, .slice A2 l2.length c2, .slice A3 l3.length c3] w fun e w' => e = .returned (.int .i64 r) ∧ Below w.heap.size w w' := by
 unfold classF at h
 obtain ⟨x, hx, h⟩ := Option.bind_eq_some_iff.1 h
 obtain ⟨y, hy, h⟩ := Option.bind_eq_some_iff.1 h
 obtain ⟨z, hz, h⟩ := Option.bind_eq_some_iff.1 h
 have HX := Aside0.mk (fun W (hb : Below w.heap.size w W) => chunk_Span_Cut.calls a0_1 a0_2 A1 c1 l1 x W (Kd.C_below hr1 hb) hc1 hx)
 have HY := Aside0.mk (fun W (hb : Below w.heap.size w W) => chunk_Span_Cut.calls a0_3 a0_4 A2 c2 l2 y W (Kd.C_below hr2 hb) hc2 hy)
 have HZ := Aside0.mk (fun W (hb : Below w.heap.size w W) => chunk_Span_Cut.calls a0_5 a0_6 A3 c3 l3 z W (Kd.C_below hr3 hb) hc3 hz)
 have HH := Aside0.mk h
 clear hr1 hc1 hr2 hc2 hr3 hc3 hx hy hz h
 go_enter Try.func61, Try.ntmps61
 go_wp2
 obtain ⟨g, hg⟩ : ∃ g, g = w.heap.size := ⟨_, rfl⟩
 have hbx : (w.alloc (.cells #[.bool a0_0, .int .i64 a0_1, .int .i64 a0_2, .int .i64 a0_3, .int .i64 a0_4, .int .i64 a0_5, .int .i64 a0_6] 91)).heap[w.heap.size]? = some (.cells #[.bool a0_0, .int .i64 a0_1, .int .i64 a0_2, .int .i64 a0_3, .int .i64 a0_4, .int .i64 a0_5, .int .i64 a0_6] 91 (0, 0)) := World.alloc_heap_new w _
 have HW := Aside0.mk (below_alloc (Below.refl w.heap.size w) (.cells #[.bool a0_0, .int .i64 a0_1, .int .i64 a0_2, .int .i64 a0_3, .int .i64 a0_4, .int .i64 a0_5, .int .i64 a0_6] 91))
 generalize (w.alloc (.cells #[.bool a0_0, .int .i64 a0_1, .int .i64 a0_2, .int .i64 a0_3, .int .i64 a0_4, .int .i64 a0_5, .int .i64 a0_6] 91)) = W0 at *
 rw [← hg] at hbx ⊢
 have HG := Aside0.mk hg
 have HBX := Aside0.mk hbx
 clear hbx hg
 have q0 := (blk_cell HBX.out 0).trans (rfl : _ = some (Value.bool a0_0))
 have q1 := (blk_cell HBX.out 1).trans (rfl : _ = some (Value.int .i64 a0_1))
 have q2 := (blk_cell HBX.out 2).trans (rfl : _ = some (Value.int .i64 a0_2))
 have q3 := (blk_cell HBX.out 3).trans (rfl : _ = some (Value.int .i64 a0_3))
 have q4 := (blk_cell HBX.out 4).trans (rfl : _ = some (Value.int .i64 a0_4))
 have q5 := (blk_cell HBX.out 5).trans (rfl : _ = some (Value.int .i64 a0_5))
 have q6 := (blk_cell HBX.out 6).trans (rfl : _ = some (Value.int .i64 a0_6))
 have HQ : Aside0 (Below W0.heap.size W0 W0.drew) := ⟨below_drew (Below.refl _ _)⟩
 have tk1 : True := trivial
 have tk2 : True := trivial
 have tk3 : True := trivial
 go_region_held3 (fun w' => w'.cell? ⟨g, 1, none⟩ = some (.int .i64 a0_1) ∧ w'.cell? ⟨g, 2, none⟩ = some (.int .i64 a0_2) ∧ w'.cell? ⟨g, 3, none⟩ = some (.int .i64 a0_3) ∧ w'.cell? ⟨g, 4, none⟩ = some (.int .i64 a0_4) ∧ w'.cell? ⟨g, 5, none⟩ = some (.int .i64 a0_5) ∧ w'.cell? ⟨g, 6, none⟩ = some (.int .i64 a0_6))
  ((refine (fun (hb : Below W0.heap.size W0 _) => ⟨(hb.cell (World.block_lt_of_cell? W0 _ q1)).trans q1, (hb.cell (World.block_lt_of_cell? W0 _ q2)).trans q2, (hb.cell (World.block_lt_of_cell? W0 _ q3)).trans q3, (hb.cell (World.block_lt_of_cell? W0 _ q4)).trans q4, (hb.cell (World.block_lt_of_cell? W0 _ q5)).trans q5, (hb.cell (World.block_lt_of_cell? W0 _ q6)).trans q6⟩) ?_; exact HQ.out))
  (first
   | ((refine Go.Proofs.YtfiamddinkokbaaW.PrintLast.goes_ Try.func60 (by kernel_rfl) rfl #[.agg #[.int .i64 a0_1, .int .i64 a0_2], .slice A1 l1.length c1] (by rfl) rfl rfl (by (try simp only [List.map_toArray, List.map_cons, List.map_nil]); rfl) ?_; have _t := tk1; refine (HX.out _ (below_step HW.out HQ.out)).mono ?_; rintro e w1 ⟨v, rfl, hr, hb⟩; obtain ⟨Bx, bx, rfl, hl, hC⟩ := Kd.R_reads hr; have HLX := Aside0.mk hl; have HCX := Aside0.mk hC; have hq := below_step HQ.out hb; clear tk1 HQ hr hb hl hC; have HQ := Aside0.mk hq; clear hq; refine ⟨_, rfl, ?_⟩))
   | ((refine Go.Proofs.YtfiamddinkokbaaW.PrintLast.goes_ Try.func60 (by kernel_rfl) rfl #[.agg #[.int .i64 a0_3, .int .i64 a0_4], .slice A2 l2.length c2] (by rfl) rfl rfl (by (try simp only [List.map_toArray, List.map_cons, List.map_nil]); rfl) ?_; have _t := tk2; refine (HY.out _ (below_step HW.out HQ.out)).mono ?_; rintro e w2 ⟨v, rfl, hr, hb⟩; obtain ⟨By, by_, rfl, hl, hC⟩ := Kd.R_reads hr; have HLY := Aside0.mk hl; have HCY := Aside0.mk hC; have hcx := Kd.C_below HCX.out hb; clear HCX; have HCX := Aside0.mk hcx; have hq := below_step HQ.out hb; clear tk2 HQ hr hb hl hC hcx; have HQ := Aside0.mk hq; clear hq; refine ⟨_, rfl, ?_⟩))
   | ((refine Go.Proofs.YtfiamddinkokbaaW.PrintLast.goes_ Try.func60 (by kernel_rfl) rfl #[.agg #[.int .i64 a0_5, .int .i64 a0_6], .slice A3 l3.length c3] (by rfl) rfl rfl (by (try simp only [List.map_toArray, List.map_cons, List.map_nil]); rfl) ?_; have _t := tk3; refine (HZ.out _ (below_step HW.out HQ.out)).mono ?_; rintro e w3 ⟨v, rfl, hr, hb⟩; obtain ⟨Bz, bz, rfl, hl, hC⟩ := Kd.R_reads hr; have HLZ := Aside0.mk hl; have HCZ := Aside0.mk hC; have hcx := Kd.C_below HCX.out hb; have hcy := Kd.C_below HCY.out hb; clear HCX HCY; have HCX := Aside0.mk hcx; have HCY := Aside0.mk hcy; have hq := below_step HQ.out hb; clear tk3 HQ hr hb hl hC hcx hcy; have HQ := Aside0.mk hq; clear hq; refine ⟨_, rfl, ?_⟩)))
 have p0 := (blk_cell (after_call HQ.out HBX.out) 0).trans (rfl : _ = some (Value.bool a0_0))
 have h := HH.out
 have HB := Aside0.mk (below_step HW.out HQ.out)
 clear q0 q1 q2 q3 q4 q5 q6 HH HX HY HZ HQ HW HBX HG
 generalize w3 = W3 at *
 cases a0_0 with
 | true =>
  rw [if_pos rfl] at h
  obtain rfl := Option.some.inj h
  go_wp2
  go_ret
  exact ⟨rfl, HB.out⟩
 | false =>
  rw [if_neg (by simp)] at h
  obtain ⟨t1, ht1, h⟩ := Option.bind_eq_some_iff.1 h
  have H1 := Aside0.mk (trim_Same_string.calls k Bx bx x By by_ y t1 W3 HCX.out HLX.out HCY.out HLY.out ht1)
  cases t1 with
  | true =>
   rw [if_pos rfl] at h
   obtain rfl := Option.some.inj h
   clear ht1
   go_wp2_with (first | (go_at_call 109; (with_reducible refine H1.out.mono ?_); rintro e w4 ⟨rfl, hd⟩; obtain ⟨n1, rfl⟩ := hd.out))
   go_ret
   exact ⟨rfl, pw_below_drewN HB.out _⟩
  | false =>
   rw [if_neg (by simp)] at h
   obtain ⟨t2, ht2, h⟩ := Option.bind_eq_some_iff.1 h
   have H2 := Aside0.mk (fun n1 => trim_Same_string.calls k Bx bx x Bz bz z t2 (W3.drewN n1) (Kd.C_drewN HCX.out _) HLX.out (Kd.C_drewN HCZ.out _) HLZ.out ht2)
   cases t2 with
   | true =>
    rw [if_pos rfl] at h
    obtain rfl := Option.some.inj h
    clear ht1 ht2
    go_wp2_with (first | (go_at_call 109; (with_reducible refine H1.out.mono ?_); rintro e w4 ⟨rfl, hd⟩; obtain ⟨n1, rfl⟩ := hd.out) | (go_at_call 109; (with_reducible refine (H2.out _).mono ?_); rintro e w5 ⟨rfl, hd⟩; obtain ⟨n2, rfl⟩ := hd.out))
    go_ret
    exact ⟨rfl, pw_below_drewN HB.out _⟩
   | false =>
    rw [if_neg (by simp)] at h
    obtain ⟨t3, ht3, h⟩ := Option.bind_eq_some_iff.1 h
    have H3 := Aside0.mk (fun n1 => trim_Same_string.calls k By by_ y Bz bz z t3 (W3.drewN n1) (Kd.C_drewN HCY.out _) HLY.out (Kd.C_drewN HCZ.out _) HLZ.out ht3)
    cases t3 with
    | true =>
     rw [if_pos rfl] at h
     obtain rfl := Option.some.inj h
     clear ht1 ht2 ht3
     go_wp2_with (first | (go_at_call 109; (with_reducible refine H1.out.mono ?_); rintro e w4 ⟨rfl, hd⟩; obtain ⟨n1, rfl⟩ := hd.out) | (go_at_call 109; (with_reducible refine (H2.out _).mono ?_); rintro e w5 ⟨rfl, hd⟩; obtain ⟨n2, rfl⟩ := hd.out) | (go_at_call 109; (with_reducible refine (H3.out _).mono ?_); rintro e w6 ⟨rfl, hd⟩; obtain ⟨n3, rfl⟩ := hd.out))
     go_ret
     exact ⟨rfl, pw_below_drewN HB.out _⟩
    | false =>
     rw [if_neg (by simp)] at h
     obtain rfl := Option.some.inj h
     clear ht1 ht2 ht3
     go_wp2_with (first | (go_at_call 109; (with_reducible refine H1.out.mono ?_); rintro e w4 ⟨rfl, hd⟩; obtain ⟨n1, rfl⟩ := hd.out) | (go_at_call 109; (with_reducible refine (H2.out _).mono ?_); rintro e w5 ⟨rfl, hd⟩; obtain ⟨n2, rfl⟩ := hd.out) | (go_at_call 109; (with_reducible refine (H3.out _).mono ?_); rintro e w6 ⟨rfl, hd⟩; obtain ⟨n3, rfl⟩ := hd.out))
     go_ret
     exact ⟨rfl, pw_below_drewN HB.out _⟩
end Go.Proofs.Ytfiamddinkokbaa.F
end

section
set_option linter.unusedVariables false
set_option linter.unusedSimpArgs false
namespace Go.Proofs.Ytfiamddinkokbaa.F
open Go.RowKit Go.Proofs.YtfiamddinkokbaaW.PrintWords Go.Proofs.YtfiamddinkokbaaW.PrintLast Go.Proofs.YtfiamddinkokbaaW.PrintMore
attribute [local go_sem] max2_int min2_int max_two min_two max_three min_three max_four min_four
set_option linter.unusedVariables false
set_option linter.unusedSimpArgs false
def chunk_Chunk_Class.f (k : Nat) (a0_0 : Bool) (a0_1 a0_2 a0_3 a0_4 a0_5 a0_6 : Int) (l1 l2 l3 : List ByteArray) : Option Int := classF k a0_0 a0_1 a0_2 a0_3 a0_4 a0_5 a0_6 l1 l2 l3
theorem chunk_Chunk_Class.mono : ∀ a0_0 a0_1 a0_2 a0_3 a0_4 a0_5 a0_6 l1 l2 l3 k, LeO (chunk_Chunk_Class.f k a0_0 a0_1 a0_2 a0_3 a0_4 a0_5 a0_6 l1 l2 l3) (chunk_Chunk_Class.f (k + 1) a0_0 a0_1 a0_2 a0_3 a0_4 a0_5 a0_6 l1 l2 l3) := class_mono
theorem chunk_Chunk_Class.calls (k : Nat) (a0_0 : Bool) (a0_1 : Int) (a0_2 : Int) (a0_3 : Int) (a0_4 : Int) (a0_5 : Int) (a0_6 : Int) (A1 : Option Addr) (c1 : Nat) (l1 : List ByteArray) (A2 : Option Addr) (c2 : Nat) (l2 : List ByteArray) (A3 : Option Addr) (c3 : Nat) (l3 : List ByteArray) (r : Int) (w : World) (hr1 : Kd.C Kd.string w A1 l1.length l1) (hc1 : l1.length ≤ c1) (hr2 : Kd.C Kd.string w A2 l2.length l2) (hc2 : l2.length ≤ c2) (hr3 : Kd.C Kd.string w A3 l3.length l3) (hc3 : l3.length ≤ c3) (h : chunk_Chunk_Class.f k a0_0 a0_1 a0_2 a0_3 a0_4 a0_5 a0_6 l1 l2 l3 = some r) :
  Calls Try.prog 61 #[.agg #[.bool a0_0, .int .i64 a0_1, .int .i64 a0_2, .int .i64 a0_3, .int .i64 a0_4, .int .i64 a0_5, .int .i64 a0_6], .slice A1 l1.length c1, .slice A2 l2.length c2, .slice A3 l3.length c3] w fun e w' => e = .returned (.int .i64 r) ∧ Below w.heap.size w w' := by
 exact class_calls k a0_0 a0_1 a0_2 a0_3 a0_4 a0_5 a0_6 A1 c1 l1 A2 c2 l2 A3 c3 l3 r w hr1 hc1 hr2 hc2 hr3 hc3 h
end Go.Proofs.Ytfiamddinkokbaa.F
end

section
set_option linter.unusedVariables false
set_option linter.unusedSimpArgs false
namespace Go.Proofs.Ytfiamddinkokbaa.F
open Go.RowKit Go.Proofs.YtfiamddinkokbaaW.PrintWords Go.Proofs.YtfiamddinkokbaaW.PrintLast Go.Proofs.YtfiamddinkokbaaW.PrintMore
attribute [local go_sem] max2_int min2_int max_two min_two max_three min_three max_four min_four
set_option linter.unusedVariables false
set_option linter.unusedSimpArgs false
def build_Files_cut.f (k : Nat) (l0_0 : List ByteArray) (l0_1 : List ByteArray) (l0_2 : List ByteArray) (a1_0 : Bool) (a1_1 : Int) (a1_2 : Int) (a1_3 : Int) (a1_4 : Int) (a1_5 : Int) (a1_6 : Int) : Option (Bool × Int × Int × Int × Int × Int × Int × List ByteArray × List ByteArray × List ByteArray × Int) := (chunk_Span_Cut.f a1_1 a1_2 l0_0).bind fun t502 => ((chunk_Span_Cut.f a1_3 a1_4 l0_1).bind fun t505 => ((chunk_Span_Cut.f a1_5 a1_6 l0_2).bind fun t508 => ((chunk_Chunk_Class.f k a1_0 a1_1 a1_2 a1_3 a1_4 a1_5 a1_6 l0_0 l0_1 l0_2).bind fun t511 => (some (a1_0, a1_1, a1_2, a1_3, a1_4, a1_5, a1_6, t502, t505, t508, t511)))))
theorem build_Files_cut.mono : ∀ a0 a1 a2 a3 a4 a5 a6 a7 a8 a9 k, LeO (build_Files_cut.f k a0 a1 a2 a3 a4 a5 a6 a7 a8 a9) (build_Files_cut.f (k + 1) a0 a1 a2 a3 a4 a5 a6 a7 a8 a9) := by
 intro a0 a1 a2 a3 a4 a5 a6 a7 a8 a9 k
 unfold build_Files_cut.f
 repeat' first
   | (with_reducible exact chunk_Chunk_Class.mono _ _ _ _ _ _ _ _ _ _ _)
   | (with_reducible exact LeO.refl _)
   | (with_reducible exact LeO.none _)
   | (with_reducible refine LeO.ite ?_ ?_)
   | (with_reducible refine LeO.bind ?_ (fun _ => ?_))
   | exact chunk_Chunk_Class.mono _ _ _ _ _ _ _ _ _ _ _
   | exact LeO.none _
   | refine LeO.ite ?_ ?_
   | refine LeO.bind ?_ (fun _ => ?_)
def build_Files_cut.T1 : Bool × List (List Nat × List Nat) := (true, [([], []), ([], []), ([1], [1]), ([], []), ([3], [3]), ([2, 4], [2, 4]), ([], []), ([6], [6]), ([], []), ([8], [8]), ([7, 9, 5], [7, 9]), ([], []), ([11], [11]), ([], []), ([13], [13]), ([12, 14, 10], [12, 14]), ([], []), ([], []), ([17], [17]), ([], []), ([19], [19]), ([], []), ([21], [21]), ([16, 18, 20, 22, 15], [16, 18, 20, 22]), ([0, 5, 10, 15, 23], [0, 5, 10, 15, 23]), ([24, 23, 0, 1, 2, 3, 4, 5, 6, 7, 8, 9, 10, 11, 12, 13, 14, 15, 16, 17, 18, 19, 20, 21, 22, 23, 24], [24])])
def build_Files_cut.B1 : List Nat := [0, 0, 2, 0, 8, 30, 0, 64, 0, 256, 1022, 0, 2048, 0, 8192, 32766, 0, 0, 131072, 0, 524288, 0, 2097152, 8388606, 16777215, 33554431]
theorem build_Files_cut.tab1 : rtab .any (opsOf Try.f137 1) = build_Files_cut.T1 := by kernel_rfl
theorem build_Files_cut.bits1 : waitsOk build_Files_cut.T1.2 build_Files_cut.B1 = true := by kernel_rfl
set_option maxHeartbeats 8000000 in
set_option maxRecDepth 100000 in
theorem build_Files_cut.calls (k : Nat) (A0_0 : Option Addr) (c0_0 : Nat) (l0_0 : List ByteArray) (A0_1 : Option Addr) (c0_1 : Nat) (l0_1 : List ByteArray) (A0_2 : Option Addr) (c0_2 : Nat) (l0_2 : List ByteArray) (a1_0 : Bool) (a1_1 : Int) (a1_2 : Int) (a1_3 : Int) (a1_4 : Int) (a1_5 : Int) (a1_6 : Int) (r1 : Bool) (r2 : Int) (r3 : Int) (r4 : Int) (r5 : Int) (r6 : Int) (r7 : Int) (r8 : List ByteArray) (r9 : List ByteArray) (r10 : List ByteArray) (r11 : Int) (w : World) (hr0_0 : Kd.C Kd.string w A0_0 l0_0.length l0_0) (hc0_0 : l0_0.length ≤ c0_0) (hr0_1 : Kd.C Kd.string w A0_1 l0_1.length l0_1) (hc0_1 : l0_1.length ≤ c0_1) (hr0_2 : Kd.C Kd.string w A0_2 l0_2.length l0_2) (hc0_2 : l0_2.length ≤ c0_2) (h : build_Files_cut.f k l0_0 l0_1 l0_2 a1_0 a1_1 a1_2 a1_3 a1_4 a1_5 a1_6 = some (r1, r2, r3, r4, r5, r6, r7, r8, r9, r10, r11)) :
  Calls Try.prog 137 #[.agg #[.slice A0_0 l0_0.length c0_0, .slice A0_1 l0_1.length c0_1, .slice A0_2 l0_2.length c0_2], .agg #[.bool a1_0, .int .i64 a1_1, .int .i64 a1_2, .int .i64 a1_3, .int .i64 a1_4, .int .i64 a1_5, .int .i64 a1_6]] w fun e w' => ∃ v7_ v8_ v9_ : Value, e = .returned (.agg #[.bool r1, .int .i64 r2, .int .i64 r3, .int .i64 r4, .int .i64 r5, .int .i64 r6, .int .i64 r7, v7_, v8_, v9_, .int .i64 r11]) ∧ Kd.R Kd.string 9 w' w.heap.size (fun k_ => some k_ ≠ (v8_ : Value).ownBlock ∧ some k_ ≠ (v9_ : Value).ownBlock) v7_ r8 ∧ Kd.R Kd.string 9 w' w.heap.size (fun k_ => some k_ ≠ (v7_ : Value).ownBlock ∧ some k_ ≠ (v9_ : Value).ownBlock) v8_ r9 ∧ Kd.R Kd.string 9 w' w.heap.size (fun k_ => some k_ ≠ (v7_ : Value).ownBlock ∧ some k_ ≠ (v8_ : Value).ownBlock) v9_ r10 ∧ Below w.heap.size w w' := by
 have hu144 := Try.underlying144
 have hu91 := Try.underlying91
 have hu179 := Try.underlying179
 have hu89 := Try.underlying89
 have HR0_0 := Aside0.mk hr0_0
 have HC0_0 := Aside0.mk hc0_0
 clear hr0_0 hc0_0
 have HR0_1 := Aside0.mk hr0_1
 have HC0_1 := Aside0.mk hc0_1
 clear hr0_1 hc0_1
 have HR0_2 := Aside0.mk hr0_2
 have HC0_2 := Aside0.mk hc0_2
 clear hr0_2 hc0_2
 have HB := Aside0.mk (Below.refl w.heap.size w)
 have H : ((chunk_Span_Cut.f a1_1 a1_2 l0_0).bind fun t502 => ((chunk_Span_Cut.f a1_3 a1_4 l0_1).bind fun t505 => ((chunk_Span_Cut.f a1_5 a1_6 l0_2).bind fun t508 => ((chunk_Chunk_Class.f k a1_0 a1_1 a1_2 a1_3 a1_4 a1_5 a1_6 l0_0 l0_1 l0_2).bind fun t511 => (some (a1_0, a1_1, a1_2, a1_3, a1_4, a1_5, a1_6, t502, t505, t508, t511)))))) = some (r1, r2, r3, r4, r5, r6, r7, r8, r9, r10, r11) := h
 clear h
 replace H := Option.bind_eq_some_iff.mp H
 obtain ⟨t502, A30, H⟩ := H
 replace H : ((chunk_Span_Cut.f a1_3 a1_4 l0_1).bind fun t505 => ((chunk_Span_Cut.f a1_5 a1_6 l0_2).bind fun t508 => ((chunk_Chunk_Class.f k a1_0 a1_1 a1_2 a1_3 a1_4 a1_5 a1_6 l0_0 l0_1 l0_2).bind fun t511 => (some (a1_0, a1_1, a1_2, a1_3, a1_4, a1_5, a1_6, t502, t505, t508, t511))))) = some (r1, r2, r3, r4, r5, r6, r7, r8, r9, r10, r11) := H
 have A3 := Aside0.mk A30
 clear A30
 replace H := Option.bind_eq_some_iff.mp H
 obtain ⟨t505, A40, H⟩ := H
 replace H : ((chunk_Span_Cut.f a1_5 a1_6 l0_2).bind fun t508 => ((chunk_Chunk_Class.f k a1_0 a1_1 a1_2 a1_3 a1_4 a1_5 a1_6 l0_0 l0_1 l0_2).bind fun t511 => (some (a1_0, a1_1, a1_2, a1_3, a1_4, a1_5, a1_6, t502, t505, t508, t511)))) = some (r1, r2, r3, r4, r5, r6, r7, r8, r9, r10, r11) := H
 have A4 := Aside0.mk A40
 clear A40
 replace H := Option.bind_eq_some_iff.mp H
 obtain ⟨t508, A50, H⟩ := H
 replace H : ((chunk_Chunk_Class.f k a1_0 a1_1 a1_2 a1_3 a1_4 a1_5 a1_6 l0_0 l0_1 l0_2).bind fun t511 => (some (a1_0, a1_1, a1_2, a1_3, a1_4, a1_5, a1_6, t502, t505, t508, t511))) = some (r1, r2, r3, r4, r5, r6, r7, r8, r9, r10, r11) := H
 have A5 := Aside0.mk A50
 clear A50
 replace H := Option.bind_eq_some_iff.mp H
 obtain ⟨t511, A60, H⟩ := H
 replace H : (some (a1_0, a1_1, a1_2, a1_3, a1_4, a1_5, a1_6, t502, t505, t508, t511)) = some (r1, r2, r3, r4, r5, r6, r7, r8, r9, r10, r11) := H
 have A6 := Aside0.mk A60
 clear A60
 simp only [Option.some.injEq, Prod.mk.injEq] at H
 obtain ⟨rfl, rfl, rfl, rfl, rfl, rfl, rfl, rfl, rfl, rfl, rfl⟩ := H
 go_enter Try.func137, Try.ntmps137
 try go_wp2_with (first | ((with_reducible refine gate_dst (N := 2) rfl ?_); refine box_event ?hg (N := 2) ?hd (cs := #[.slice A0_0 l0_0.length c0_0, .slice A0_1 l0_1.length c0_1, .slice A0_2 l0_2.length c0_2]) (t := 144) ?hr ?_; (case hd => rfl); (case hg => rfl); (case hr => first | (go_simp; done) | (go_simp; rfl)); intro gb499 hg w7 hbox hb; have n0_ := Aside0.mk (below_step (by repeat (first | (with_reducible first | exact HB.out | apply below_alloc | apply pw_below_drewN | apply below_drew1) | exact HB.out)) hb); have n1_ := Aside0.mk (hbox); have n2_ := Aside0.mk ((by rw [hg]; exact (below_size (by repeat (first | (with_reducible first | exact HB.out | apply below_alloc | apply pw_below_drewN | apply below_drew1) | exact HB.out))) : w.heap.size ≤ gb499)); have n3_ := Aside0.mk ((by rw [hg]; exact (below_size (by repeat (first | (with_reducible first | exact HB.out | apply below_alloc | apply pw_below_drewN | apply below_drew1) | exact HB.out))) : w.heap.size ≤ gb499)); clear HB; have HB := n0_; have BK499 := n1_; have GW499 := n2_; have GE499 := n3_; clear n0_ n1_ n2_ n3_; clear hb hbox hg) | ((with_reducible refine gate_dst (N := 3) rfl ?_); refine box_event ?hg (N := 3) ?hd (cs := #[.bool a1_0, .int .i64 a1_1, .int .i64 a1_2, .int .i64 a1_3, .int .i64 a1_4, .int .i64 a1_5, .int .i64 a1_6]) (t := 91) ?hr ?_; (case hd => rfl); (case hg => rfl); (case hr => first | (go_simp; done) | (go_simp; rfl)); intro gb500 hg w8 hbox hb; have n0_ := Aside0.mk (blk_below (g := gb499) (o := .cells #[.slice A0_0 l0_0.length c0_0, .slice A0_1 l0_1.length c0_1, .slice A0_2 l0_2.length c0_2] 144 (0, 0)) (by (with_reducible repeat (first | refine blk_drewN ?_ _ | refine blk_drew ?_ | refine blk_alloc ?_ _)); exact BK499.out) hb); have n1_ := Aside0.mk (below_step (by repeat (first | (with_reducible first | exact HB.out | apply below_alloc | apply pw_below_drewN | apply below_drew1 | refine below_set ?_ GE499.out) | exact HB.out)) hb); have n2_ := Aside0.mk (hbox); have n3_ := Aside0.mk ((by rw [hg]; exact (below_size (by repeat (first | (with_reducible first | exact HB.out | apply below_alloc | apply pw_below_drewN | apply below_drew1 | refine below_set ?_ GE499.out) | exact HB.out))) : w.heap.size ≤ gb500)); have n4_ := Aside0.mk ((by rw [hg]; exact (below_size (by repeat (first | (with_reducible first | exact HB.out | apply below_alloc | apply pw_below_drewN | apply below_drew1 | refine below_set ?_ GE499.out) | exact HB.out))) : w.heap.size ≤ gb500)); have n5_ := Aside0.mk ((by rw [hg]; exact Nat.ne_of_lt (blk_lt (g := gb499) (o := .cells #[.slice A0_0 l0_0.length c0_0, .slice A0_1 l0_1.length c0_1, .slice A0_2 l0_2.length c0_2] 144 (0, 0)) (by (with_reducible repeat (first | refine blk_drewN ?_ _ | refine blk_drew ?_ | refine blk_alloc ?_ _)); exact BK499.out)) : gb499 ≠ gb500)); have n6_ := Aside0.mk ((by rw [hg]; exact Nat.ne_of_gt (blk_lt (g := gb499) (o := .cells #[.slice A0_0 l0_0.length c0_0, .slice A0_1 l0_1.length c0_1, .slice A0_2 l0_2.length c0_2] 144 (0, 0)) (by (with_reducible repeat (first | refine blk_drewN ?_ _ | refine blk_drew ?_ | refine blk_alloc ?_ _)); exact BK499.out)) : gb500 ≠ gb499)); clear BK499; clear HB; have BK499 := n0_; have HB := n1_; have BK500 := n2_; have GW500 := n3_; have GE500 := n4_; have NB499_500 := n5_; have NB500_499 := n6_; clear n0_ n1_ n2_ n3_ n4_ n5_ n6_; clear hb hbox hg) | ((with_reducible refine gate_dst (N := 4) rfl ?_); refine box_event ?hg (N := 4) ?hd (cs := #[.bool false, .int .i64 0, .int .i64 0, .int .i64 0, .int .i64 0, .int .i64 0, .int .i64 0, .slice none 0 0, .slice none 0 0, .slice none 0 0, .int .i64 0]) (t := 179) ?hr ?_; (case hd => rfl); (case hg => rfl); (case hr => first | (go_simp; done) | (go_simp; rfl)); intro gb501 hg w9 hbox hb; have n0_ := Aside0.mk (blk_below (g := gb499) (o := .cells #[.slice A0_0 l0_0.length c0_0, .slice A0_1 l0_1.length c0_1, .slice A0_2 l0_2.length c0_2] 144 (0, 0)) (by (with_reducible repeat (first | refine blk_drewN ?_ _ | refine blk_drew ?_ | refine blk_alloc ?_ _)); exact BK499.out) hb); have n1_ := Aside0.mk (blk_below (g := gb500) (o := .cells #[.bool a1_0, .int .i64 a1_1, .int .i64 a1_2, .int .i64 a1_3, .int .i64 a1_4, .int .i64 a1_5, .int .i64 a1_6] 91 (0, 0)) (by (with_reducible repeat (first | refine blk_drewN ?_ _ | refine blk_drew ?_ | refine blk_alloc ?_ _)); exact BK500.out) hb); have n2_ := Aside0.mk (below_step (by repeat (first | (with_reducible first | exact HB.out | apply below_alloc | apply pw_below_drewN | apply below_drew1 | refine below_set ?_ GE499.out | refine below_set ?_ GE500.out) | exact HB.out)) hb); have n3_ := Aside0.mk (hbox); have n4_ := Aside0.mk ((by rw [hg]; exact (below_size (by repeat (first | (with_reducible first | exact HB.out | apply below_alloc | apply pw_below_drewN | apply below_drew1 | refine below_set ?_ GE499.out | refine below_set ?_ GE500.out) | exact HB.out))) : w.heap.size ≤ gb501)); have n5_ := Aside0.mk ((by rw [hg]; exact (below_size (by repeat (first | (with_reducible first | exact HB.out | apply below_alloc | apply pw_below_drewN | apply below_drew1 | refine below_set ?_ GE499.out | refine below_set ?_ GE500.out) | exact HB.out))) : w.heap.size ≤ gb501)); have n6_ := Aside0.mk ((by rw [hg]; exact Nat.ne_of_lt (blk_lt (g := gb499) (o := .cells #[.slice A0_0 l0_0.length c0_0, .slice A0_1 l0_1.length c0_1, .slice A0_2 l0_2.length c0_2] 144 (0, 0)) (by (with_reducible repeat (first | refine blk_drewN ?_ _ | refine blk_drew ?_ | refine blk_alloc ?_ _)); exact BK499.out)) : gb499 ≠ gb501)); have n7_ := Aside0.mk ((by rw [hg]; exact Nat.ne_of_gt (blk_lt (g := gb499) (o := .cells #[.slice A0_0 l0_0.length c0_0, .slice A0_1 l0_1.length c0_1, .slice A0_2 l0_2.length c0_2] 144 (0, 0)) (by (with_reducible repeat (first | refine blk_drewN ?_ _ | refine blk_drew ?_ | refine blk_alloc ?_ _)); exact BK499.out)) : gb501 ≠ gb499)); have n8_ := Aside0.mk ((by rw [hg]; exact Nat.ne_of_lt (blk_lt (g := gb500) (o := .cells #[.bool a1_0, .int .i64 a1_1, .int .i64 a1_2, .int .i64 a1_3, .int .i64 a1_4, .int .i64 a1_5, .int .i64 a1_6] 91 (0, 0)) (by (with_reducible repeat (first | refine blk_drewN ?_ _ | refine blk_drew ?_ | refine blk_alloc ?_ _)); exact BK500.out)) : gb500 ≠ gb501)); have n9_ := Aside0.mk ((by rw [hg]; exact Nat.ne_of_gt (blk_lt (g := gb500) (o := .cells #[.bool a1_0, .int .i64 a1_1, .int .i64 a1_2, .int .i64 a1_3, .int .i64 a1_4, .int .i64 a1_5, .int .i64 a1_6] 91 (0, 0)) (by (with_reducible repeat (first | refine blk_drewN ?_ _ | refine blk_drew ?_ | refine blk_alloc ?_ _)); exact BK500.out)) : gb501 ≠ gb500)); clear BK499; clear BK500; clear HB; have BK499 := n0_; have BK500 := n1_; have HB := n2_; have BK501 := n3_; have GW501 := n4_; have GE501 := n5_; have NB499_501 := n6_; have NB501_499 := n7_; have NB500_501 := n8_; have NB501_500 := n9_; clear n0_ n1_ n2_ n3_ n4_ n5_ n6_ n7_ n8_ n9_; clear hb hbox hg))
 have n0_ := Aside0.mk (blk_drew BK499.out)
 have n1_ := Aside0.mk (blk_drew BK500.out)
 have n2_ := Aside0.mk (blk_drew BK501.out)
 have n3_ := Aside0.mk (below_drew1 HB.out)
 clear BK499
 clear BK500
 clear BK501
 clear HB
 have BK499 := n0_
 have BK500 := n1_
 have BK501 := n2_
 have HB := n3_
 clear n0_ n1_ n2_ n3_
 refine start_ (n := 26) (S := fun w' => w'.cell? ⟨gb500, 0, none⟩ = some (.bool a1_0) ∧ w'.cell? ⟨gb500, 1, none⟩ = some (.int .i64 a1_1) ∧ w'.cell? ⟨gb500, 2, none⟩ = some (.int .i64 a1_2) ∧ w'.cell? ⟨gb500, 3, none⟩ = some (.int .i64 a1_3) ∧ w'.cell? ⟨gb500, 4, none⟩ = some (.int .i64 a1_4) ∧ w'.cell? ⟨gb500, 5, none⟩ = some (.int .i64 a1_5) ∧ w'.cell? ⟨gb500, 6, none⟩ = some (.int .i64 a1_6) ∧ w'.cell? ⟨gb499, 0, none⟩ = some (.slice A0_0 l0_0.length c0_0) ∧ w'.cell? ⟨gb499, 1, none⟩ = some (.slice A0_1 l0_1.length c0_1) ∧ w'.cell? ⟨gb499, 2, none⟩ = some (.slice A0_2 l0_2.length c0_2)) (ds := []) #[false, false, false, false, false, false, false, false, false, false, false, false, false, false, false, false, false, false, false, false, false, false, false, false, false, false] (by kernel_rfl) rfl rfl ⟨(blk_cell BK500.out 0).trans rfl, (blk_cell BK500.out 1).trans rfl, (blk_cell BK500.out 2).trans rfl, (blk_cell BK500.out 3).trans rfl, (blk_cell BK500.out 4).trans rfl, (blk_cell BK500.out 5).trans rfl, (blk_cell BK500.out 6).trans rfl, (blk_cell BK499.out 0).trans rfl, (blk_cell BK499.out 1).trans rfl, (blk_cell BK499.out 2).trans rfl⟩ (fun hHeld => ?_); refine with_tabW build_Files_cut.tab1 build_Files_cut.bits1 (fun HT_ HW_ => ?_)
 generalize w9.drew = w10 at BK499 BK500 BK501 HB hHeld ⊢
 refine pure_ (i := 1) (N := some 6) (v := ?_) (a' := ?_) #[false, true, false, false, false, false, false, false, false, false, false, false, false, false, false, false, false, false, false, false, false, false, false, false, false, false] rfl rfl (any_of HT_.out (by kernel_rfl)) (fun _ _ _ h => h) (Or.inl ⟨by rfl, ?_⟩) ?_ ?_
 rotate_left
 ·intro w'
  go_simp
  with_reducible rfl
 rotate_left
 ·simp only [Act.put, List.setIfInBounds_toArray, List.set_cons_zero, List.set_cons_succ, i64_w, i32_w]
  rfl
 refine pure_ (i := 3) (N := some 8) (v := ?_) (a' := ?_) #[false, true, false, true, false, false, false, false, false, false, false, false, false, false, false, false, false, false, false, false, false, false, false, false, false, false] rfl rfl (any_of HT_.out (by kernel_rfl)) (fun _ _ _ h => h) (Or.inl ⟨by rfl, ?_⟩) ?_ ?_
 rotate_left
 ·intro w'
  go_simp
  with_reducible rfl
 rotate_left
 ·simp only [Act.put, List.setIfInBounds_toArray, List.set_cons_zero, List.set_cons_succ, i64_w, i32_w]
  rfl
 refine pure_ (i := 6) (N := some 11) (v := ?_) (a' := ?_) #[false, true, false, true, false, false, true, false, false, false, false, false, false, false, false, false, false, false, false, false, false, false, false, false, false, false] rfl rfl (any_of HT_.out (by kernel_rfl)) (fun _ _ _ h => h) (Or.inl ⟨by rfl, ?_⟩) ?_ ?_
 rotate_left
 ·intro w'
  go_simp
  with_reducible rfl
 rotate_left
 ·simp only [Act.put, List.setIfInBounds_toArray, List.set_cons_zero, List.set_cons_succ, i64_w, i32_w]
  rfl
 refine pure_ (i := 8) (N := some 13) (v := ?_) (a' := ?_) #[false, true, false, true, false, false, true, false, true, false, false, false, false, false, false, false, false, false, false, false, false, false, false, false, false, false] rfl rfl (any_of HT_.out (by kernel_rfl)) (fun _ _ _ h => h) (Or.inl ⟨by rfl, ?_⟩) ?_ ?_
 rotate_left
 ·intro w'
  go_simp
  with_reducible rfl
 rotate_left
 ·simp only [Act.put, List.setIfInBounds_toArray, List.set_cons_zero, List.set_cons_succ, i64_w, i32_w]
  rfl
 refine pure_ (i := 11) (N := some 16) (v := ?_) (a' := ?_) #[false, true, false, true, false, false, true, false, true, false, false, true, false, false, false, false, false, false, false, false, false, false, false, false, false, false] rfl rfl (any_of HT_.out (by kernel_rfl)) (fun _ _ _ h => h) (Or.inl ⟨by rfl, ?_⟩) ?_ ?_
 rotate_left
 ·intro w'
  go_simp
  with_reducible rfl
 rotate_left
 ·simp only [Act.put, List.setIfInBounds_toArray, List.set_cons_zero, List.set_cons_succ, i64_w, i32_w]
  rfl
 refine pure_ (i := 13) (N := some 18) (v := ?_) (a' := ?_) #[false, true, false, true, false, false, true, false, true, false, false, true, false, true, false, false, false, false, false, false, false, false, false, false, false, false] rfl rfl (any_of HT_.out (by kernel_rfl)) (fun _ _ _ h => h) (Or.inl ⟨by rfl, ?_⟩) ?_ ?_
 rotate_left
 ·intro w'
  go_simp
  with_reducible rfl
 rotate_left
 ·simp only [Act.put, List.setIfInBounds_toArray, List.set_cons_zero, List.set_cons_succ, i64_w, i32_w]
  rfl
 refine pure_ (i := 17) (N := some 22) (v := ?_) (a' := ?_) #[false, true, false, true, false, false, true, false, true, false, false, true, false, true, false, false, false, true, false, false, false, false, false, false, false, false] rfl rfl (any_of HT_.out (by kernel_rfl)) (fun _ _ _ h => h) (Or.inl ⟨by rfl, ?_⟩) ?_ ?_
 rotate_left
 ·intro w'
  go_simp
  with_reducible rfl
 rotate_left
 ·simp only [Act.put, List.setIfInBounds_toArray, List.set_cons_zero, List.set_cons_succ, i64_w, i32_w]
  rfl
 refine pure_ (i := 19) (N := some 24) (v := ?_) (a' := ?_) #[false, true, false, true, false, false, true, false, true, false, false, true, false, true, false, false, false, true, false, true, false, false, false, false, false, false] rfl rfl (any_of HT_.out (by kernel_rfl)) (fun _ _ _ h => h) (Or.inl ⟨by rfl, ?_⟩) ?_ ?_
 rotate_left
 ·intro w'
  go_simp
  with_reducible rfl
 rotate_left
 ·simp only [Act.put, List.setIfInBounds_toArray, List.set_cons_zero, List.set_cons_succ, i64_w, i32_w]
  rfl
 refine pure_ (i := 21) (N := some 26) (v := ?_) (a' := ?_) #[false, true, false, true, false, false, true, false, true, false, false, true, false, true, false, false, false, true, false, true, false, true, false, false, false, false] rfl rfl (any_of HT_.out (by kernel_rfl)) (fun _ _ _ h => h) (Or.inl ⟨by rfl, ?_⟩) ?_ ?_
 rotate_left
 ·intro w'
  go_simp
  with_reducible rfl
 rotate_left
 ·simp only [Act.put, List.setIfInBounds_toArray, List.set_cons_zero, List.set_cons_succ, i64_w, i32_w]
  rfl
 refine take_ (i := 0) (N := some 5) (v := ?_) (a' := ?_) #[true, true, false, true, false, false, true, false, true, false, false, true, false, true, false, false, false, true, false, true, false, true, false, false, false, false] rfl rfl (take_ofW HT_.out HW_.out (by kernel_rfl)) (fun _ _ _ h => h) (Or.inl ⟨by rfl, ?_⟩) hHeld ?_ ?_
 rotate_left
 ·rintro w' ⟨s0, s1, s2, s3, s4, s5, s6, s7, s8, s9⟩
  go_simp
  with_reducible rfl
 rotate_left
 ·simp only [Act.put, List.setIfInBounds_toArray, List.set_cons_zero, List.set_cons_succ, i64_w, i32_w]
  rfl
 refine take_ (i := 2) (N := some 7) (v := ?_) (a' := ?_) #[true, true, true, true, false, false, true, false, true, false, false, true, false, true, false, false, false, true, false, true, false, true, false, false, false, false] rfl rfl (take_ofW HT_.out HW_.out (by kernel_rfl)) (fun _ _ _ h => h) (Or.inl ⟨by rfl, ?_⟩) hHeld ?_ ?_
 rotate_left
 ·rintro w' ⟨s0, s1, s2, s3, s4, s5, s6, s7, s8, s9⟩
  go_simp
  with_reducible rfl
 rotate_left
 ·simp only [Act.put, List.setIfInBounds_toArray, List.set_cons_zero, List.set_cons_succ, i64_w, i32_w]
  rfl
 refine take_ (i := 4) (N := some 9) (v := ?_) (a' := ?_) #[true, true, true, true, true, false, true, false, true, false, false, true, false, true, false, false, false, true, false, true, false, true, false, false, false, false] rfl rfl (take_ofW HT_.out HW_.out (by kernel_rfl)) (fun _ _ _ h => h) (Or.inl ⟨by rfl, ?_⟩) hHeld ?_ ?_
 rotate_left
 ·rintro w' ⟨s0, s1, s2, s3, s4, s5, s6, s7, s8, s9⟩
  go_simp
  with_reducible rfl
 rotate_left
 ·simp only [Act.put, List.setIfInBounds_toArray, List.set_cons_zero, List.set_cons_succ, i64_w, i32_w]
  rfl
 refine take_ (i := 7) (N := some 12) (v := ?_) (a' := ?_) #[true, true, true, true, true, false, true, true, true, false, false, true, false, true, false, false, false, true, false, true, false, true, false, false, false, false] rfl rfl (take_ofW HT_.out HW_.out (by kernel_rfl)) (fun _ _ _ h => h) (Or.inl ⟨by rfl, ?_⟩) hHeld ?_ ?_
 rotate_left
 ·rintro w' ⟨s0, s1, s2, s3, s4, s5, s6, s7, s8, s9⟩
  go_simp
  with_reducible rfl
 rotate_left
 ·simp only [Act.put, List.setIfInBounds_toArray, List.set_cons_zero, List.set_cons_succ, i64_w, i32_w]
  rfl
 refine take_ (i := 9) (N := some 14) (v := ?_) (a' := ?_) #[true, true, true, true, true, false, true, true, true, true, false, true, false, true, false, false, false, true, false, true, false, true, false, false, false, false] rfl rfl (take_ofW HT_.out HW_.out (by kernel_rfl)) (fun _ _ _ h => h) (Or.inl ⟨by rfl, ?_⟩) hHeld ?_ ?_
 rotate_left
 ·rintro w' ⟨s0, s1, s2, s3, s4, s5, s6, s7, s8, s9⟩
  go_simp
  with_reducible rfl
 rotate_left
 ·simp only [Act.put, List.setIfInBounds_toArray, List.set_cons_zero, List.set_cons_succ, i64_w, i32_w]
  rfl
 refine take_ (i := 12) (N := some 17) (v := ?_) (a' := ?_) #[true, true, true, true, true, false, true, true, true, true, false, true, true, true, false, false, false, true, false, true, false, true, false, false, false, false] rfl rfl (take_ofW HT_.out HW_.out (by kernel_rfl)) (fun _ _ _ h => h) (Or.inl ⟨by rfl, ?_⟩) hHeld ?_ ?_
 rotate_left
 ·rintro w' ⟨s0, s1, s2, s3, s4, s5, s6, s7, s8, s9⟩
  go_simp
  with_reducible rfl
 rotate_left
 ·simp only [Act.put, List.setIfInBounds_toArray, List.set_cons_zero, List.set_cons_succ, i64_w, i32_w]
  rfl
 refine take_ (i := 14) (N := some 19) (v := ?_) (a' := ?_) #[true, true, true, true, true, false, true, true, true, true, false, true, true, true, true, false, false, true, false, true, false, true, false, false, false, false] rfl rfl (take_ofW HT_.out HW_.out (by kernel_rfl)) (fun _ _ _ h => h) (Or.inl ⟨by rfl, ?_⟩) hHeld ?_ ?_
 rotate_left
 ·rintro w' ⟨s0, s1, s2, s3, s4, s5, s6, s7, s8, s9⟩
  go_simp
  with_reducible rfl
 rotate_left
 ·simp only [Act.put, List.setIfInBounds_toArray, List.set_cons_zero, List.set_cons_succ, i64_w, i32_w]
  rfl
 refine take_ (i := 16) (N := some 21) (v := ?_) (a' := ?_) #[true, true, true, true, true, false, true, true, true, true, false, true, true, true, true, false, true, true, false, true, false, true, false, false, false, false] rfl rfl (take_ofW HT_.out HW_.out (by kernel_rfl)) (fun _ _ _ h => h) (Or.inl ⟨by rfl, ?_⟩) hHeld ?_ ?_
 rotate_left
 ·rintro w' ⟨s0, s1, s2, s3, s4, s5, s6, s7, s8, s9⟩
  go_simp
  with_reducible rfl
 rotate_left
 ·simp only [Act.put, List.setIfInBounds_toArray, List.set_cons_zero, List.set_cons_succ, i64_w, i32_w]
  rfl
 refine take_ (i := 18) (N := some 23) (v := ?_) (a' := ?_) #[true, true, true, true, true, false, true, true, true, true, false, true, true, true, true, false, true, true, true, true, false, true, false, false, false, false] rfl rfl (take_ofW HT_.out HW_.out (by kernel_rfl)) (fun _ _ _ h => h) (Or.inl ⟨by rfl, ?_⟩) hHeld ?_ ?_
 rotate_left
 ·rintro w' ⟨s0, s1, s2, s3, s4, s5, s6, s7, s8, s9⟩
  go_simp
  with_reducible rfl
 rotate_left
 ·simp only [Act.put, List.setIfInBounds_toArray, List.set_cons_zero, List.set_cons_succ, i64_w, i32_w]
  rfl
 refine take_ (i := 20) (N := some 25) (v := ?_) (a' := ?_) #[true, true, true, true, true, false, true, true, true, true, false, true, true, true, true, false, true, true, true, true, true, true, false, false, false, false] rfl rfl (take_ofW HT_.out HW_.out (by kernel_rfl)) (fun _ _ _ h => h) (Or.inl ⟨by rfl, ?_⟩) hHeld ?_ ?_
 rotate_left
 ·rintro w' ⟨s0, s1, s2, s3, s4, s5, s6, s7, s8, s9⟩
  go_simp
  with_reducible rfl
 rotate_left
 ·simp only [Act.put, List.setIfInBounds_toArray, List.set_cons_zero, List.set_cons_succ, i64_w, i32_w]
  rfl
 refine take_ (i := 22) (N := some 27) (v := ?_) (a' := ?_) #[true, true, true, true, true, false, true, true, true, true, false, true, true, true, true, false, true, true, true, true, true, true, true, false, false, false] rfl rfl (take_ofW HT_.out HW_.out (by kernel_rfl)) (fun _ _ _ h => h) (Or.inl ⟨by rfl, ?_⟩) hHeld ?_ ?_
 rotate_left
 ·rintro w' ⟨s0, s1, s2, s3, s4, s5, s6, s7, s8, s9⟩
  go_simp
  with_reducible rfl
 rotate_left
 ·simp only [Act.put, List.setIfInBounds_toArray, List.set_cons_zero, List.set_cons_succ, i64_w, i32_w]
  rfl
 refine one_ (i := 5) (N := some 10) #[true, true, true, true, true, true, true, true, true, true, false, true, true, true, true, false, true, true, true, true, true, true, true, false, false, false] rfl rfl (one_of HT_.out (by kernel_rfl)) (by decide) (fun K hK => ?_)
 refine goes_ Try.func60 (by kernel_rfl) rfl #[.agg #[.int .i64 a1_1, .int .i64 a1_2], .slice A0_0 l0_0.length c0_0] (by rfl) rfl rfl (by (try simp only [List.map_toArray, List.map_cons, List.map_nil]); first | done | rfl | (simp only [List.length_drop, List.length_take]; rfl)) ?_
 with_reducible refine (chunk_Span_Cut.calls a1_1 a1_2 _ _ l0_0 t502 _ ?side1 ?side2 A3.out).mono ?_
 (case side1 => repeat (first | exact (Kd.C_below HR0_0.out HB.out) | (with_reducible refine Kd.C_alloc ?_ _) | (with_reducible refine Kd.C_drewN ?_ _) | (with_reducible refine Kd.C_drew ?_)))
 (case side2 => exact HC0_0.out)
 rintro e w11 ⟨v503, rfl, ho0, hb⟩
 refine ⟨_, rfl, ?_⟩
 have n0_ := Aside0.mk (Kd.R_lower ho0 (below_size (by repeat (first | (with_reducible first | exact HB.out | apply below_alloc | apply pw_below_drewN | apply below_drew1 | refine below_set ?_ GE499.out | refine below_set ?_ GE500.out | refine below_set ?_ GE501.out) | exact HB.out))))
 have n1_ := Aside0.mk (blk_below (g := gb499) (o := .cells #[.slice A0_0 l0_0.length c0_0, .slice A0_1 l0_1.length c0_1, .slice A0_2 l0_2.length c0_2] 144 (0, 0)) (by (with_reducible repeat (first | refine blk_drewN ?_ _ | refine blk_drew ?_ | refine blk_alloc ?_ _)); exact BK499.out) hb)
 have n2_ := Aside0.mk (blk_below (g := gb500) (o := .cells #[.bool a1_0, .int .i64 a1_1, .int .i64 a1_2, .int .i64 a1_3, .int .i64 a1_4, .int .i64 a1_5, .int .i64 a1_6] 91 (0, 0)) (by (with_reducible repeat (first | refine blk_drewN ?_ _ | refine blk_drew ?_ | refine blk_alloc ?_ _)); exact BK500.out) hb)
 have n3_ := Aside0.mk (blk_below (g := gb501) (o := .cells #[.bool false, .int .i64 0, .int .i64 0, .int .i64 0, .int .i64 0, .int .i64 0, .int .i64 0, .slice none 0 0, .slice none 0 0, .slice none 0 0, .int .i64 0] 179 (0, 0)) (by (with_reducible repeat (first | refine blk_drewN ?_ _ | refine blk_drew ?_ | refine blk_alloc ?_ _)); exact BK501.out) hb)
 have n4_ := Aside0.mk (below_step (by repeat (first | (with_reducible first | exact HB.out | apply below_alloc | apply pw_below_drewN | apply below_drew1 | refine below_set ?_ GE499.out | refine below_set ?_ GE500.out | refine below_set ?_ GE501.out) | exact HB.out)) hb)
 clear BK499
 clear BK500
 clear BK501
 clear HB
 have HO504 := n0_
 have BK499 := n1_
 have BK500 := n2_
 have BK501 := n3_
 have HB := n4_
 clear n0_ n1_ n2_ n3_ n4_
 (try clear hb)
 (try clear hb2)
 (try clear hk)
 (try clear hi)
 (try clear ho0)
 refine hK.out _ _ ⟨(blk_cell BK500.out 0).trans rfl, (blk_cell BK500.out 1).trans rfl, (blk_cell BK500.out 2).trans rfl, (blk_cell BK500.out 3).trans rfl, (blk_cell BK500.out 4).trans rfl, (blk_cell BK500.out 5).trans rfl, (blk_cell BK500.out 6).trans rfl, (blk_cell BK499.out 0).trans rfl, (blk_cell BK499.out 1).trans rfl, (blk_cell BK499.out 2).trans rfl⟩ (fun hHeld => ?_)
 clear hK K
 refine norm_ (a' := ?_) ?_ ?_
 rotate_left
 ·show Act.put _ (some 10) _ = _
  simp only [Act.put, List.setIfInBounds_toArray, List.set_cons_zero, List.set_cons_succ, i64_w, i32_w]
  rfl
 refine one_ (i := 10) (N := some 15) #[true, true, true, true, true, true, true, true, true, true, true, true, true, true, true, false, true, true, true, true, true, true, true, false, false, false] rfl rfl (one_of HT_.out (by kernel_rfl)) (by decide) (fun K hK => ?_)
 refine goes_ Try.func60 (by kernel_rfl) rfl #[.agg #[.int .i64 a1_3, .int .i64 a1_4], .slice A0_1 l0_1.length c0_1] (by rfl) rfl rfl (by (try simp only [List.map_toArray, List.map_cons, List.map_nil]); first | done | rfl | (simp only [List.length_drop, List.length_take]; rfl)) ?_
 with_reducible refine (chunk_Span_Cut.calls a1_3 a1_4 _ _ l0_1 t505 _ ?side1 ?side2 A4.out).mono ?_
 (case side1 => repeat (first | exact (Kd.C_below HR0_1.out HB.out) | (with_reducible refine Kd.C_alloc ?_ _) | (with_reducible refine Kd.C_drewN ?_ _) | (with_reducible refine Kd.C_drew ?_)))
 (case side2 => exact HC0_1.out)
 rintro e w12 ⟨v506, rfl, ho0, hb⟩
 refine ⟨_, rfl, ?_⟩
 have n0_ := Aside0.mk (Kd.R_elder' (by (with_reducible repeat (first | apply Kd.R_alloc | apply Kd.R_drewN | apply Kd.R_drew)); exact HO504.out) (Kd.R_base ho0) hb)
 have n1_ := Aside0.mk (Kd.R_lower (Kd.R_new' ho0 (Kd.R_lt (by (with_reducible repeat (first | apply Kd.R_alloc | apply Kd.R_drewN | apply Kd.R_drew)); exact HO504.out))) (below_size (by repeat (first | (with_reducible first | exact HB.out | apply below_alloc | apply pw_below_drewN | apply below_drew1 | refine below_set ?_ GE499.out | refine below_set ?_ GE500.out | refine below_set ?_ GE501.out) | exact HB.out))))
 have n2_ := Aside0.mk (blk_below (g := gb499) (o := .cells #[.slice A0_0 l0_0.length c0_0, .slice A0_1 l0_1.length c0_1, .slice A0_2 l0_2.length c0_2] 144 (0, 0)) (by (with_reducible repeat (first | refine blk_drewN ?_ _ | refine blk_drew ?_ | refine blk_alloc ?_ _)); exact BK499.out) hb)
 have n3_ := Aside0.mk (blk_below (g := gb500) (o := .cells #[.bool a1_0, .int .i64 a1_1, .int .i64 a1_2, .int .i64 a1_3, .int .i64 a1_4, .int .i64 a1_5, .int .i64 a1_6] 91 (0, 0)) (by (with_reducible repeat (first | refine blk_drewN ?_ _ | refine blk_drew ?_ | refine blk_alloc ?_ _)); exact BK500.out) hb)
 have n4_ := Aside0.mk (blk_below (g := gb501) (o := .cells #[.bool false, .int .i64 0, .int .i64 0, .int .i64 0, .int .i64 0, .int .i64 0, .int .i64 0, .slice none 0 0, .slice none 0 0, .slice none 0 0, .int .i64 0] 179 (0, 0)) (by (with_reducible repeat (first | refine blk_drewN ?_ _ | refine blk_drew ?_ | refine blk_alloc ?_ _)); exact BK501.out) hb)
 have n5_ := Aside0.mk (below_step (by repeat (first | (with_reducible first | exact HB.out | apply below_alloc | apply pw_below_drewN | apply below_drew1 | refine below_set ?_ GE499.out | refine below_set ?_ GE500.out | refine below_set ?_ GE501.out) | exact HB.out)) hb)
 clear HO504
 clear BK499
 clear BK500
 clear BK501
 clear HB
 have HO504 := n0_
 have HO507 := n1_
 have BK499 := n2_
 have BK500 := n3_
 have BK501 := n4_
 have HB := n5_
 clear n0_ n1_ n2_ n3_ n4_ n5_
 (try clear hb)
 (try clear hb2)
 (try clear hk)
 (try clear hi)
 (try clear ho0)
 refine hK.out _ _ ⟨(blk_cell BK500.out 0).trans rfl, (blk_cell BK500.out 1).trans rfl, (blk_cell BK500.out 2).trans rfl, (blk_cell BK500.out 3).trans rfl, (blk_cell BK500.out 4).trans rfl, (blk_cell BK500.out 5).trans rfl, (blk_cell BK500.out 6).trans rfl, (blk_cell BK499.out 0).trans rfl, (blk_cell BK499.out 1).trans rfl, (blk_cell BK499.out 2).trans rfl⟩ (fun hHeld => ?_)
 clear hK K
 refine norm_ (a' := ?_) ?_ ?_
 rotate_left
 ·show Act.put _ (some 15) _ = _
  simp only [Act.put, List.setIfInBounds_toArray, List.set_cons_zero, List.set_cons_succ, i64_w, i32_w]
  rfl
 refine one_ (i := 15) (N := some 20) #[true, true, true, true, true, true, true, true, true, true, true, true, true, true, true, true, true, true, true, true, true, true, true, false, false, false] rfl rfl (one_of HT_.out (by kernel_rfl)) (by decide) (fun K hK => ?_)
 refine goes_ Try.func60 (by kernel_rfl) rfl #[.agg #[.int .i64 a1_5, .int .i64 a1_6], .slice A0_2 l0_2.length c0_2] (by rfl) rfl rfl (by (try simp only [List.map_toArray, List.map_cons, List.map_nil]); first | done | rfl | (simp only [List.length_drop, List.length_take]; rfl)) ?_
 with_reducible refine (chunk_Span_Cut.calls a1_5 a1_6 _ _ l0_2 t508 _ ?side1 ?side2 A5.out).mono ?_
 (case side1 => repeat (first | exact (Kd.C_below HR0_2.out HB.out) | (with_reducible refine Kd.C_alloc ?_ _) | (with_reducible refine Kd.C_drewN ?_ _) | (with_reducible refine Kd.C_drew ?_)))
 (case side2 => exact HC0_2.out)
 rintro e w13 ⟨v509, rfl, ho0, hb⟩
 refine ⟨_, rfl, ?_⟩
 have n0_ := Aside0.mk (Kd.R_elder' (by (with_reducible repeat (first | apply Kd.R_alloc | apply Kd.R_drewN | apply Kd.R_drew)); exact HO504.out) (Kd.R_base ho0) hb)
 have n1_ := Aside0.mk (Kd.R_elder' (by (with_reducible repeat (first | apply Kd.R_alloc | apply Kd.R_drewN | apply Kd.R_drew)); exact HO507.out) (Kd.R_base ho0) hb)
 have n2_ := Aside0.mk (Kd.R_lower (Kd.R_new' (Kd.R_new' ho0 (Kd.R_lt (by (with_reducible repeat (first | apply Kd.R_alloc | apply Kd.R_drewN | apply Kd.R_drew)); exact HO504.out))) (Kd.R_lt (by (with_reducible repeat (first | apply Kd.R_alloc | apply Kd.R_drewN | apply Kd.R_drew)); exact HO507.out))) (below_size (by repeat (first | (with_reducible first | exact HB.out | apply below_alloc | apply pw_below_drewN | apply below_drew1 | refine below_set ?_ GE499.out | refine below_set ?_ GE500.out | refine below_set ?_ GE501.out) | exact HB.out))))
 have n3_ := Aside0.mk (blk_below (g := gb499) (o := .cells #[.slice A0_0 l0_0.length c0_0, .slice A0_1 l0_1.length c0_1, .slice A0_2 l0_2.length c0_2] 144 (0, 0)) (by (with_reducible repeat (first | refine blk_drewN ?_ _ | refine blk_drew ?_ | refine blk_alloc ?_ _)); exact BK499.out) hb)
 have n4_ := Aside0.mk (blk_below (g := gb500) (o := .cells #[.bool a1_0, .int .i64 a1_1, .int .i64 a1_2, .int .i64 a1_3, .int .i64 a1_4, .int .i64 a1_5, .int .i64 a1_6] 91 (0, 0)) (by (with_reducible repeat (first | refine blk_drewN ?_ _ | refine blk_drew ?_ | refine blk_alloc ?_ _)); exact BK500.out) hb)
 have n5_ := Aside0.mk (blk_below (g := gb501) (o := .cells #[.bool false, .int .i64 0, .int .i64 0, .int .i64 0, .int .i64 0, .int .i64 0, .int .i64 0, .slice none 0 0, .slice none 0 0, .slice none 0 0, .int .i64 0] 179 (0, 0)) (by (with_reducible repeat (first | refine blk_drewN ?_ _ | refine blk_drew ?_ | refine blk_alloc ?_ _)); exact BK501.out) hb)
 have n6_ := Aside0.mk (below_step (by repeat (first | (with_reducible first | exact HB.out | apply below_alloc | apply pw_below_drewN | apply below_drew1 | refine below_set ?_ GE499.out | refine below_set ?_ GE500.out | refine below_set ?_ GE501.out) | exact HB.out)) hb)
 clear HO504
 clear HO507
 clear BK499
 clear BK500
 clear BK501
 clear HB
 have HO504 := n0_
 have HO507 := n1_
 have HO510 := n2_
 have BK499 := n3_
 have BK500 := n4_
 have BK501 := n5_
 have HB := n6_
 clear n0_ n1_ n2_ n3_ n4_ n5_ n6_
 (try clear hb)
 (try clear hb2)
 (try clear hk)
 (try clear hi)
 (try clear ho0)
 refine hK.out _ _ ⟨(blk_cell BK500.out 0).trans rfl, (blk_cell BK500.out 1).trans rfl, (blk_cell BK500.out 2).trans rfl, (blk_cell BK500.out 3).trans rfl, (blk_cell BK500.out 4).trans rfl, (blk_cell BK500.out 5).trans rfl, (blk_cell BK500.out 6).trans rfl, (blk_cell BK499.out 0).trans rfl, (blk_cell BK499.out 1).trans rfl, (blk_cell BK499.out 2).trans rfl⟩ (fun hHeld => ?_)
 clear hK K
 refine norm_ (a' := ?_) ?_ ?_
 rotate_left
 ·show Act.put _ (some 20) _ = _
  simp only [Act.put, List.setIfInBounds_toArray, List.set_cons_zero, List.set_cons_succ, i64_w, i32_w]
  rfl
 refine one_ (i := 23) (N := some 28) #[true, true, true, true, true, true, true, true, true, true, true, true, true, true, true, true, true, true, true, true, true, true, true, true, false, false] rfl rfl (one_of HT_.out (by kernel_rfl)) (by decide) (fun K hK => ?_)
 refine goes_ Try.func61 (by kernel_rfl) rfl #[.agg #[.bool a1_0, .int .i64 a1_1, .int .i64 a1_2, .int .i64 a1_3, .int .i64 a1_4, .int .i64 a1_5, .int .i64 a1_6], .slice A0_0 l0_0.length c0_0, .slice A0_1 l0_1.length c0_1, .slice A0_2 l0_2.length c0_2] (by rfl) rfl rfl (by (try simp only [List.map_toArray, List.map_cons, List.map_nil]); first | done | rfl | (simp only [List.length_drop, List.length_take]; rfl)) ?_
 with_reducible refine (chunk_Chunk_Class.calls k a1_0 a1_1 a1_2 a1_3 a1_4 a1_5 a1_6 _ _ l0_0 _ _ l0_1 _ _ l0_2 t511 _ ?side1 ?side2 ?side3 ?side4 ?side5 ?side6 A6.out).mono ?_
 (case side1 => repeat (first | exact (Kd.C_below HR0_0.out HB.out) | (with_reducible refine Kd.C_alloc ?_ _) | (with_reducible refine Kd.C_drewN ?_ _) | (with_reducible refine Kd.C_drew ?_)))
 (case side2 => exact HC0_0.out)
 (case side3 => repeat (first | exact (Kd.C_below HR0_1.out HB.out) | (with_reducible refine Kd.C_alloc ?_ _) | (with_reducible refine Kd.C_drewN ?_ _) | (with_reducible refine Kd.C_drew ?_)))
 (case side4 => exact HC0_1.out)
 (case side5 => repeat (first | exact (Kd.C_below HR0_2.out HB.out) | (with_reducible refine Kd.C_alloc ?_ _) | (with_reducible refine Kd.C_drewN ?_ _) | (with_reducible refine Kd.C_drew ?_)))
 (case side6 => exact HC0_2.out)
 rintro e w14 ⟨rfl, hb⟩
 refine ⟨_, rfl, ?_⟩
 have n0_ := Aside0.mk (Kd.R_below (by (with_reducible repeat (first | apply Kd.R_alloc | apply Kd.R_drewN | apply Kd.R_drew)); exact HO504.out) hb)
 have n1_ := Aside0.mk (Kd.R_below (by (with_reducible repeat (first | apply Kd.R_alloc | apply Kd.R_drewN | apply Kd.R_drew)); exact HO507.out) hb)
 have n2_ := Aside0.mk (Kd.R_below (by (with_reducible repeat (first | apply Kd.R_alloc | apply Kd.R_drewN | apply Kd.R_drew)); exact HO510.out) hb)
 have n3_ := Aside0.mk (blk_below (g := gb499) (o := .cells #[.slice A0_0 l0_0.length c0_0, .slice A0_1 l0_1.length c0_1, .slice A0_2 l0_2.length c0_2] 144 (0, 0)) (by (with_reducible repeat (first | refine blk_drewN ?_ _ | refine blk_drew ?_ | refine blk_alloc ?_ _)); exact BK499.out) hb)
 have n4_ := Aside0.mk (blk_below (g := gb500) (o := .cells #[.bool a1_0, .int .i64 a1_1, .int .i64 a1_2, .int .i64 a1_3, .int .i64 a1_4, .int .i64 a1_5, .int .i64 a1_6] 91 (0, 0)) (by (with_reducible repeat (first | refine blk_drewN ?_ _ | refine blk_drew ?_ | refine blk_alloc ?_ _)); exact BK500.out) hb)
 have n5_ := Aside0.mk (blk_below (g := gb501) (o := .cells #[.bool false, .int .i64 0, .int .i64 0, .int .i64 0, .int .i64 0, .int .i64 0, .int .i64 0, .slice none 0 0, .slice none 0 0, .slice none 0 0, .int .i64 0] 179 (0, 0)) (by (with_reducible repeat (first | refine blk_drewN ?_ _ | refine blk_drew ?_ | refine blk_alloc ?_ _)); exact BK501.out) hb)
 have n6_ := Aside0.mk (below_step (by repeat (first | (with_reducible first | exact HB.out | apply below_alloc | apply pw_below_drewN | apply below_drew1 | refine below_set ?_ GE499.out | refine below_set ?_ GE500.out | refine below_set ?_ GE501.out) | exact HB.out)) hb)
 clear HO504
 clear HO507
 clear HO510
 clear BK499
 clear BK500
 clear BK501
 clear HB
 have HO504 := n0_
 have HO507 := n1_
 have HO510 := n2_
 have BK499 := n3_
 have BK500 := n4_
 have BK501 := n5_
 have HB := n6_
 clear n0_ n1_ n2_ n3_ n4_ n5_ n6_
 (try clear hb)
 (try clear hb2)
 (try clear hk)
 (try clear hi)
 obtain ⟨Ao15, co15, eo15⟩ := Kd.R_slice HO510.out
 (first | subst eo15 | (injection eo15 with f1_ f2_ f3_; have f4_ := f1_.symm; have f5_ := f3_.symm; clear f1_ f2_ f3_; subst f4_; subst f5_))
 obtain ⟨Ao16, co16, eo16⟩ := Kd.R_slice HO507.out
 (first | subst eo16 | (injection eo16 with f1_ f2_ f3_; have f4_ := f1_.symm; have f5_ := f3_.symm; clear f1_ f2_ f3_; subst f4_; subst f5_))
 obtain ⟨Ao17, co17, eo17⟩ := Kd.R_slice HO504.out
 (first | subst eo17 | (injection eo17 with f1_ f2_ f3_; have f4_ := f1_.symm; have f5_ := f3_.symm; clear f1_ f2_ f3_; subst f4_; subst f5_))
 refine hK.out _ _ ⟨(blk_cell BK500.out 0).trans rfl, (blk_cell BK500.out 1).trans rfl, (blk_cell BK500.out 2).trans rfl, (blk_cell BK500.out 3).trans rfl, (blk_cell BK500.out 4).trans rfl, (blk_cell BK500.out 5).trans rfl, (blk_cell BK500.out 6).trans rfl, (blk_cell BK499.out 0).trans rfl, (blk_cell BK499.out 1).trans rfl, (blk_cell BK499.out 2).trans rfl⟩ (fun hHeld => ?_)
 clear hK K
 refine norm_ (a' := ?_) ?_ ?_
 rotate_left
 ·show Act.put _ (some 28) _ = _
  simp only [Act.put, List.setIfInBounds_toArray, List.set_cons_zero, List.set_cons_succ, i64_w, i32_w]
  rfl
 refine pure_ (i := 24) (N := some 29) (v := ?_) (a' := ?_) #[true, true, true, true, true, true, true, true, true, true, true, true, true, true, true, true, true, true, true, true, true, true, true, true, true, false] rfl rfl (any_of HT_.out (by kernel_rfl)) (fun _ _ _ h => h) (Or.inl ⟨by rfl, ?_⟩) ?_ ?_
 rotate_left
 ·intro w'
  go_simp
  with_reducible rfl
 rotate_left
 ·simp only [Act.put, List.setIfInBounds_toArray, List.set_cons_zero, List.set_cons_succ, i64_w, i32_w]
  rfl
 refine one_ (i := 25) (N := none) #[true, true, true, true, true, true, true, true, true, true, true, true, true, true, true, true, true, true, true, true, true, true, true, true, true, true] rfl rfl (one_of HT_.out (by kernel_rfl)) (by decide) (fun K hK => ?_)
 have hs18 : w14.cell? ⟨gb501, 0, none⟩ = some (.bool false) := (blk_cell BK501.out 0).trans rfl
 have hfs18 := blk_frozen BK501.out 0
 have hns18_0 := NB499_501.out
 have hns18_1 := NB500_501.out
 have hms18_0 := NB501_499.out
 have hms18_1 := NB501_500.out
 have hs19 : w14.cell? ⟨gb501, 1, none⟩ = some (.int .i64 0) := (blk_cell BK501.out 1).trans rfl
 have hfs19 := blk_frozen BK501.out 1
 have hns19_0 := NB499_501.out
 have hns19_1 := NB500_501.out
 have hms19_0 := NB501_499.out
 have hms19_1 := NB501_500.out
 have hs20 : w14.cell? ⟨gb501, 2, none⟩ = some (.int .i64 0) := (blk_cell BK501.out 2).trans rfl
 have hfs20 := blk_frozen BK501.out 2
 have hns20_0 := NB499_501.out
 have hns20_1 := NB500_501.out
 have hms20_0 := NB501_499.out
 have hms20_1 := NB501_500.out
 have hs21 : w14.cell? ⟨gb501, 3, none⟩ = some (.int .i64 0) := (blk_cell BK501.out 3).trans rfl
 have hfs21 := blk_frozen BK501.out 3
 have hns21_0 := NB499_501.out
 have hns21_1 := NB500_501.out
 have hms21_0 := NB501_499.out
 have hms21_1 := NB501_500.out
 have hs22 : w14.cell? ⟨gb501, 4, none⟩ = some (.int .i64 0) := (blk_cell BK501.out 4).trans rfl
 have hfs22 := blk_frozen BK501.out 4
 have hns22_0 := NB499_501.out
 have hns22_1 := NB500_501.out
 have hms22_0 := NB501_499.out
 have hms22_1 := NB501_500.out
 have hs23 : w14.cell? ⟨gb501, 5, none⟩ = some (.int .i64 0) := (blk_cell BK501.out 5).trans rfl
 have hfs23 := blk_frozen BK501.out 5
 have hns23_0 := NB499_501.out
 have hns23_1 := NB500_501.out
 have hms23_0 := NB501_499.out
 have hms23_1 := NB501_500.out
 have hs24 : w14.cell? ⟨gb501, 6, none⟩ = some (.int .i64 0) := (blk_cell BK501.out 6).trans rfl
 have hfs24 := blk_frozen BK501.out 6
 have hns24_0 := NB499_501.out
 have hns24_1 := NB500_501.out
 have hms24_0 := NB501_499.out
 have hms24_1 := NB501_500.out
 have hs25 : w14.cell? ⟨gb501, 7, none⟩ = some (.slice none 0 0) := (blk_cell BK501.out 7).trans rfl
 have hfs25 := blk_frozen BK501.out 7
 have hns25_0 := NB499_501.out
 have hns25_1 := NB500_501.out
 have hms25_0 := NB501_499.out
 have hms25_1 := NB501_500.out
 have hs26 : w14.cell? ⟨gb501, 8, none⟩ = some (.slice none 0 0) := (blk_cell BK501.out 8).trans rfl
 have hfs26 := blk_frozen BK501.out 8
 have hns26_0 := NB499_501.out
 have hns26_1 := NB500_501.out
 have hms26_0 := NB501_499.out
 have hms26_1 := NB501_500.out
 have hs27 : w14.cell? ⟨gb501, 9, none⟩ = some (.slice none 0 0) := (blk_cell BK501.out 9).trans rfl
 have hfs27 := blk_frozen BK501.out 9
 have hns27_0 := NB499_501.out
 have hns27_1 := NB500_501.out
 have hms27_0 := NB501_499.out
 have hms27_1 := NB501_500.out
 have hs28 : w14.cell? ⟨gb501, 10, none⟩ = some (.int .i64 0) := (blk_cell BK501.out 10).trans rfl
 have hfs28 := blk_frozen BK501.out 10
 have hns28_0 := NB499_501.out
 have hns28_1 := NB500_501.out
 have hms28_0 := NB501_499.out
 have hms28_1 := NB501_500.out
 refine skip_ (w1 := ?_) (by rfl) rfl ?_ ?_
 rotate_left
 ·go_simp
  rfl
 refine hK.out _ _ ⟨((cell_far (p := ⟨gb501, _, none⟩) NB500_501.out _).trans (((cell_far (p := ⟨gb501, _, none⟩) NB500_501.out _).trans (((cell_far (p := ⟨gb501, _, none⟩) NB500_501.out _).trans (((cell_far (p := ⟨gb501, _, none⟩) NB500_501.out _).trans (((cell_far (p := ⟨gb501, _, none⟩) NB500_501.out _).trans (((cell_far (p := ⟨gb501, _, none⟩) NB500_501.out _).trans (((cell_far (p := ⟨gb501, _, none⟩) NB500_501.out _).trans (((cell_far (p := ⟨gb501, _, none⟩) NB500_501.out _).trans (((cell_far (p := ⟨gb501, _, none⟩) NB500_501.out _).trans (((cell_far (p := ⟨gb501, _, none⟩) NB500_501.out _).trans (((cell_far (p := ⟨gb501, _, none⟩) NB500_501.out _).trans (hHeld.1)))))))))))))))))))))), ((cell_far (p := ⟨gb501, _, none⟩) NB500_501.out _).trans (((cell_far (p := ⟨gb501, _, none⟩) NB500_501.out _).trans (((cell_far (p := ⟨gb501, _, none⟩) NB500_501.out _).trans (((cell_far (p := ⟨gb501, _, none⟩) NB500_501.out _).trans (((cell_far (p := ⟨gb501, _, none⟩) NB500_501.out _).trans (((cell_far (p := ⟨gb501, _, none⟩) NB500_501.out _).trans (((cell_far (p := ⟨gb501, _, none⟩) NB500_501.out _).trans (((cell_far (p := ⟨gb501, _, none⟩) NB500_501.out _).trans (((cell_far (p := ⟨gb501, _, none⟩) NB500_501.out _).trans (((cell_far (p := ⟨gb501, _, none⟩) NB500_501.out _).trans (((cell_far (p := ⟨gb501, _, none⟩) NB500_501.out _).trans (hHeld.2.1)))))))))))))))))))))), ((cell_far (p := ⟨gb501, _, none⟩) NB500_501.out _).trans (((cell_far (p := ⟨gb501, _, none⟩) NB500_501.out _).trans (((cell_far (p := ⟨gb501, _, none⟩) NB500_501.out _).trans (((cell_far (p := ⟨gb501, _, none⟩) NB500_501.out _).trans (((cell_far (p := ⟨gb501, _, none⟩) NB500_501.out _).trans (((cell_far (p := ⟨gb501, _, none⟩) NB500_501.out _).trans (((cell_far (p := ⟨gb501, _, none⟩) NB500_501.out _).trans (((cell_far (p := ⟨gb501, _, none⟩) NB500_501.out _).trans (((cell_far (p := ⟨gb501, _, none⟩) NB500_501.out _).trans (((cell_far (p := ⟨gb501, _, none⟩) NB500_501.out _).trans (((cell_far (p := ⟨gb501, _, none⟩) NB500_501.out _).trans (hHeld.2.2.1)))))))))))))))))))))), ((cell_far (p := ⟨gb501, _, none⟩) NB500_501.out _).trans (((cell_far (p := ⟨gb501, _, none⟩) NB500_501.out _).trans (((cell_far (p := ⟨gb501, _, none⟩) NB500_501.out _).trans (((cell_far (p := ⟨gb501, _, none⟩) NB500_501.out _).trans (((cell_far (p := ⟨gb501, _, none⟩) NB500_501.out _).trans (((cell_far (p := ⟨gb501, _, none⟩) NB500_501.out _).trans (((cell_far (p := ⟨gb501, _, none⟩) NB500_501.out _).trans (((cell_far (p := ⟨gb501, _, none⟩) NB500_501.out _).trans (((cell_far (p := ⟨gb501, _, none⟩) NB500_501.out _).trans (((cell_far (p := ⟨gb501, _, none⟩) NB500_501.out _).trans (((cell_far (p := ⟨gb501, _, none⟩) NB500_501.out _).trans (hHeld.2.2.2.1)))))))))))))))))))))), ((cell_far (p := ⟨gb501, _, none⟩) NB500_501.out _).trans (((cell_far (p := ⟨gb501, _, none⟩) NB500_501.out _).trans (((cell_far (p := ⟨gb501, _, none⟩) NB500_501.out _).trans (((cell_far (p := ⟨gb501, _, none⟩) NB500_501.out _).trans (((cell_far (p := ⟨gb501, _, none⟩) NB500_501.out _).trans (((cell_far (p := ⟨gb501, _, none⟩) NB500_501.out _).trans (((cell_far (p := ⟨gb501, _, none⟩) NB500_501.out _).trans (((cell_far (p := ⟨gb501, _, none⟩) NB500_501.out _).trans (((cell_far (p := ⟨gb501, _, none⟩) NB500_501.out _).trans (((cell_far (p := ⟨gb501, _, none⟩) NB500_501.out _).trans (((cell_far (p := ⟨gb501, _, none⟩) NB500_501.out _).trans (hHeld.2.2.2.2.1)))))))))))))))))))))), ((cell_far (p := ⟨gb501, _, none⟩) NB500_501.out _).trans (((cell_far (p := ⟨gb501, _, none⟩) NB500_501.out _).trans (((cell_far (p := ⟨gb501, _, none⟩) NB500_501.out _).trans (((cell_far (p := ⟨gb501, _, none⟩) NB500_501.out _).trans (((cell_far (p := ⟨gb501, _, none⟩) NB500_501.out _).trans (((cell_far (p := ⟨gb501, _, none⟩) NB500_501.out _).trans (((cell_far (p := ⟨gb501, _, none⟩) NB500_501.out _).trans (((cell_far (p := ⟨gb501, _, none⟩) NB500_501.out _).trans (((cell_far (p := ⟨gb501, _, none⟩) NB500_501.out _).trans (((cell_far (p := ⟨gb501, _, none⟩) NB500_501.out _).trans (((cell_far (p := ⟨gb501, _, none⟩) NB500_501.out _).trans (hHeld.2.2.2.2.2.1)))))))))))))))))))))), ((cell_far (p := ⟨gb501, _, none⟩) NB500_501.out _).trans (((cell_far (p := ⟨gb501, _, none⟩) NB500_501.out _).trans (((cell_far (p := ⟨gb501, _, none⟩) NB500_501.out _).trans (((cell_far (p := ⟨gb501, _, none⟩) NB500_501.out _).trans (((cell_far (p := ⟨gb501, _, none⟩) NB500_501.out _).trans (((cell_far (p := ⟨gb501, _, none⟩) NB500_501.out _).trans (((cell_far (p := ⟨gb501, _, none⟩) NB500_501.out _).trans (((cell_far (p := ⟨gb501, _, none⟩) NB500_501.out _).trans (((cell_far (p := ⟨gb501, _, none⟩) NB500_501.out _).trans (((cell_far (p := ⟨gb501, _, none⟩) NB500_501.out _).trans (((cell_far (p := ⟨gb501, _, none⟩) NB500_501.out _).trans (hHeld.2.2.2.2.2.2.1)))))))))))))))))))))), ((cell_far (p := ⟨gb501, _, none⟩) NB499_501.out _).trans (((cell_far (p := ⟨gb501, _, none⟩) NB499_501.out _).trans (((cell_far (p := ⟨gb501, _, none⟩) NB499_501.out _).trans (((cell_far (p := ⟨gb501, _, none⟩) NB499_501.out _).trans (((cell_far (p := ⟨gb501, _, none⟩) NB499_501.out _).trans (((cell_far (p := ⟨gb501, _, none⟩) NB499_501.out _).trans (((cell_far (p := ⟨gb501, _, none⟩) NB499_501.out _).trans (((cell_far (p := ⟨gb501, _, none⟩) NB499_501.out _).trans (((cell_far (p := ⟨gb501, _, none⟩) NB499_501.out _).trans (((cell_far (p := ⟨gb501, _, none⟩) NB499_501.out _).trans (((cell_far (p := ⟨gb501, _, none⟩) NB499_501.out _).trans (hHeld.2.2.2.2.2.2.2.1)))))))))))))))))))))), ((cell_far (p := ⟨gb501, _, none⟩) NB499_501.out _).trans (((cell_far (p := ⟨gb501, _, none⟩) NB499_501.out _).trans (((cell_far (p := ⟨gb501, _, none⟩) NB499_501.out _).trans (((cell_far (p := ⟨gb501, _, none⟩) NB499_501.out _).trans (((cell_far (p := ⟨gb501, _, none⟩) NB499_501.out _).trans (((cell_far (p := ⟨gb501, _, none⟩) NB499_501.out _).trans (((cell_far (p := ⟨gb501, _, none⟩) NB499_501.out _).trans (((cell_far (p := ⟨gb501, _, none⟩) NB499_501.out _).trans (((cell_far (p := ⟨gb501, _, none⟩) NB499_501.out _).trans (((cell_far (p := ⟨gb501, _, none⟩) NB499_501.out _).trans (((cell_far (p := ⟨gb501, _, none⟩) NB499_501.out _).trans (hHeld.2.2.2.2.2.2.2.2.1)))))))))))))))))))))), ((cell_far (p := ⟨gb501, _, none⟩) NB499_501.out _).trans (((cell_far (p := ⟨gb501, _, none⟩) NB499_501.out _).trans (((cell_far (p := ⟨gb501, _, none⟩) NB499_501.out _).trans (((cell_far (p := ⟨gb501, _, none⟩) NB499_501.out _).trans (((cell_far (p := ⟨gb501, _, none⟩) NB499_501.out _).trans (((cell_far (p := ⟨gb501, _, none⟩) NB499_501.out _).trans (((cell_far (p := ⟨gb501, _, none⟩) NB499_501.out _).trans (((cell_far (p := ⟨gb501, _, none⟩) NB499_501.out _).trans (((cell_far (p := ⟨gb501, _, none⟩) NB499_501.out _).trans (((cell_far (p := ⟨gb501, _, none⟩) NB499_501.out _).trans (((cell_far (p := ⟨gb501, _, none⟩) NB499_501.out _).trans (hHeld.2.2.2.2.2.2.2.2.2))))))))))))))))))))))⟩ (fun hHeld => ?_)
 clear hK K
 refine done_ (done_of HT_.out (by kernel_rfl)) ?_
 try go_wp2
 refine bodyPost_ret (results_cell_row rfl _ _ gb501 179 #[.bool a1_0, .int .i64 a1_1, .int .i64 a1_2, .int .i64 a1_3, .int .i64 a1_4, .int .i64 a1_5, .int .i64 a1_6, .slice Ao17 t502.length co17, .slice Ao16 t505.length co16, .slice Ao15 t508.length co15, .int .i64 t511] (0, 0) _ rfl (by (with_reducible repeat (first | refine blk_drewN ?_ _ | refine blk_drew ?_ | refine blk_alloc ?_ _)); refine blk_put (cs := #[.bool a1_0, .int .i64 a1_1, .int .i64 a1_2, .int .i64 a1_3, .int .i64 a1_4, .int .i64 a1_5, .int .i64 a1_6, .slice Ao17 t502.length co17, .slice Ao16 t505.length co16, .slice Ao15 t508.length co15, .int .i64 0]) ?_ 10 _ rfl; (with_reducible repeat (first | refine blk_drewN ?_ _ | refine blk_drew ?_ | refine blk_alloc ?_ _)); refine blk_put (cs := #[.bool a1_0, .int .i64 a1_1, .int .i64 a1_2, .int .i64 a1_3, .int .i64 a1_4, .int .i64 a1_5, .int .i64 a1_6, .slice Ao17 t502.length co17, .slice Ao16 t505.length co16, .slice none 0 0, .int .i64 0]) ?_ 9 _ rfl; (with_reducible repeat (first | refine blk_drewN ?_ _ | refine blk_drew ?_ | refine blk_alloc ?_ _)); refine blk_put (cs := #[.bool a1_0, .int .i64 a1_1, .int .i64 a1_2, .int .i64 a1_3, .int .i64 a1_4, .int .i64 a1_5, .int .i64 a1_6, .slice Ao17 t502.length co17, .slice none 0 0, .slice none 0 0, .int .i64 0]) ?_ 8 _ rfl; (with_reducible repeat (first | refine blk_drewN ?_ _ | refine blk_drew ?_ | refine blk_alloc ?_ _)); refine blk_put (cs := #[.bool a1_0, .int .i64 a1_1, .int .i64 a1_2, .int .i64 a1_3, .int .i64 a1_4, .int .i64 a1_5, .int .i64 a1_6, .slice none 0 0, .slice none 0 0, .slice none 0 0, .int .i64 0]) ?_ 7 _ rfl; (with_reducible repeat (first | refine blk_drewN ?_ _ | refine blk_drew ?_ | refine blk_alloc ?_ _)); refine blk_put (cs := #[.bool a1_0, .int .i64 a1_1, .int .i64 a1_2, .int .i64 a1_3, .int .i64 a1_4, .int .i64 a1_5, .int .i64 0, .slice none 0 0, .slice none 0 0, .slice none 0 0, .int .i64 0]) ?_ 6 _ rfl; (with_reducible repeat (first | refine blk_drewN ?_ _ | refine blk_drew ?_ | refine blk_alloc ?_ _)); refine blk_put (cs := #[.bool a1_0, .int .i64 a1_1, .int .i64 a1_2, .int .i64 a1_3, .int .i64 a1_4, .int .i64 0, .int .i64 0, .slice none 0 0, .slice none 0 0, .slice none 0 0, .int .i64 0]) ?_ 5 _ rfl; (with_reducible repeat (first | refine blk_drewN ?_ _ | refine blk_drew ?_ | refine blk_alloc ?_ _)); refine blk_put (cs := #[.bool a1_0, .int .i64 a1_1, .int .i64 a1_2, .int .i64 a1_3, .int .i64 0, .int .i64 0, .int .i64 0, .slice none 0 0, .slice none 0 0, .slice none 0 0, .int .i64 0]) ?_ 4 _ rfl; (with_reducible repeat (first | refine blk_drewN ?_ _ | refine blk_drew ?_ | refine blk_alloc ?_ _)); refine blk_put (cs := #[.bool a1_0, .int .i64 a1_1, .int .i64 a1_2, .int .i64 0, .int .i64 0, .int .i64 0, .int .i64 0, .slice none 0 0, .slice none 0 0, .slice none 0 0, .int .i64 0]) ?_ 3 _ rfl; (with_reducible repeat (first | refine blk_drewN ?_ _ | refine blk_drew ?_ | refine blk_alloc ?_ _)); refine blk_put (cs := #[.bool a1_0, .int .i64 a1_1, .int .i64 0, .int .i64 0, .int .i64 0, .int .i64 0, .int .i64 0, .slice none 0 0, .slice none 0 0, .slice none 0 0, .int .i64 0]) ?_ 2 _ rfl; (with_reducible repeat (first | refine blk_drewN ?_ _ | refine blk_drew ?_ | refine blk_alloc ?_ _)); refine blk_put (cs := #[.bool a1_0, .int .i64 0, .int .i64 0, .int .i64 0, .int .i64 0, .int .i64 0, .int .i64 0, .slice none 0 0, .slice none 0 0, .slice none 0 0, .int .i64 0]) ?_ 1 _ rfl; (with_reducible repeat (first | refine blk_drewN ?_ _ | refine blk_drew ?_ | refine blk_alloc ?_ _)); refine blk_put (cs := #[.bool false, .int .i64 0, .int .i64 0, .int .i64 0, .int .i64 0, .int .i64 0, .int .i64 0, .slice none 0 0, .slice none 0 0, .slice none 0 0, .int .i64 0]) ?_ 0 _ rfl; (with_reducible repeat (first | refine blk_drewN ?_ _ | refine blk_drew ?_ | refine blk_alloc ?_ _)); exact BK501.out) Try.underlying179 rfl (by kernel_rfl)) rfl ?_
 exact ⟨_, _, _, by first | rfl | (simp [errW_none, errW_some] <;> rfl) | (simp [*, errW_none, errW_some] <;> rfl), by (with_reducible repeat (first | apply Kd.R_alloc | apply Kd.R_drewN | apply Kd.R_drew)); exact Kd.R_mono (Kd.R_far (p := ⟨gb501, 10, none⟩) (Kd.R_far (p := ⟨gb501, 9, none⟩) (Kd.R_far (p := ⟨gb501, 8, none⟩) (Kd.R_far (p := ⟨gb501, 7, none⟩) (Kd.R_far (p := ⟨gb501, 6, none⟩) (Kd.R_far (p := ⟨gb501, 5, none⟩) (Kd.R_far (p := ⟨gb501, 4, none⟩) (Kd.R_far (p := ⟨gb501, 3, none⟩) (Kd.R_far (p := ⟨gb501, 2, none⟩) (Kd.R_far (p := ⟨gb501, 1, none⟩) (Kd.R_far (p := ⟨gb501, 0, none⟩) (Kd.R_types HO504.out BK501.out (by decide)) (fun _ hk => hk.2) (.bool a1_0)) (fun _ hk => hk.2) (.int .i64 a1_1)) (fun _ hk => hk.2) (.int .i64 a1_2)) (fun _ hk => hk.2) (.int .i64 a1_3)) (fun _ hk => hk.2) (.int .i64 a1_4)) (fun _ hk => hk.2) (.int .i64 a1_5)) (fun _ hk => hk.2) (.int .i64 a1_6)) (fun _ hk => hk.2) (.slice Ao17 t502.length co17)) (fun _ hk => hk.2) (.slice Ao16 t505.length co16)) (fun _ hk => hk.2) (.slice Ao15 t508.length co15)) (fun _ hk => hk.2) (.int .i64 t511)) (fun _ hk => ⟨hk.1.1.2, hk.1.2⟩), by (with_reducible repeat (first | apply Kd.R_alloc | apply Kd.R_drewN | apply Kd.R_drew)); exact Kd.R_mono (Kd.R_far (p := ⟨gb501, 10, none⟩) (Kd.R_far (p := ⟨gb501, 9, none⟩) (Kd.R_far (p := ⟨gb501, 8, none⟩) (Kd.R_far (p := ⟨gb501, 7, none⟩) (Kd.R_far (p := ⟨gb501, 6, none⟩) (Kd.R_far (p := ⟨gb501, 5, none⟩) (Kd.R_far (p := ⟨gb501, 4, none⟩) (Kd.R_far (p := ⟨gb501, 3, none⟩) (Kd.R_far (p := ⟨gb501, 2, none⟩) (Kd.R_far (p := ⟨gb501, 1, none⟩) (Kd.R_far (p := ⟨gb501, 0, none⟩) (Kd.R_types HO507.out BK501.out (by decide)) (fun _ hk => hk.2) (.bool a1_0)) (fun _ hk => hk.2) (.int .i64 a1_1)) (fun _ hk => hk.2) (.int .i64 a1_2)) (fun _ hk => hk.2) (.int .i64 a1_3)) (fun _ hk => hk.2) (.int .i64 a1_4)) (fun _ hk => hk.2) (.int .i64 a1_5)) (fun _ hk => hk.2) (.int .i64 a1_6)) (fun _ hk => hk.2) (.slice Ao17 t502.length co17)) (fun _ hk => hk.2) (.slice Ao16 t505.length co16)) (fun _ hk => hk.2) (.slice Ao15 t508.length co15)) (fun _ hk => hk.2) (.int .i64 t511)) (fun _ hk => ⟨hk.1.1.2, hk.1.2⟩), by (with_reducible repeat (first | apply Kd.R_alloc | apply Kd.R_drewN | apply Kd.R_drew)); exact Kd.R_mono (Kd.R_far (p := ⟨gb501, 10, none⟩) (Kd.R_far (p := ⟨gb501, 9, none⟩) (Kd.R_far (p := ⟨gb501, 8, none⟩) (Kd.R_far (p := ⟨gb501, 7, none⟩) (Kd.R_far (p := ⟨gb501, 6, none⟩) (Kd.R_far (p := ⟨gb501, 5, none⟩) (Kd.R_far (p := ⟨gb501, 4, none⟩) (Kd.R_far (p := ⟨gb501, 3, none⟩) (Kd.R_far (p := ⟨gb501, 2, none⟩) (Kd.R_far (p := ⟨gb501, 1, none⟩) (Kd.R_far (p := ⟨gb501, 0, none⟩) (Kd.R_types HO510.out BK501.out (by decide)) (fun _ hk => hk.2) (.bool a1_0)) (fun _ hk => hk.2) (.int .i64 a1_1)) (fun _ hk => hk.2) (.int .i64 a1_2)) (fun _ hk => hk.2) (.int .i64 a1_3)) (fun _ hk => hk.2) (.int .i64 a1_4)) (fun _ hk => hk.2) (.int .i64 a1_5)) (fun _ hk => hk.2) (.int .i64 a1_6)) (fun _ hk => hk.2) (.slice Ao17 t502.length co17)) (fun _ hk => hk.2) (.slice Ao16 t505.length co16)) (fun _ hk => hk.2) (.slice Ao15 t508.length co15)) (fun _ hk => hk.2) (.int .i64 t511)) (fun _ hk => ⟨hk.1.1.2, hk.1.2⟩), by repeat (first | (with_reducible first | exact HB.out | apply below_alloc | apply pw_below_drewN | apply below_drew1 | refine below_set ?_ GE499.out | refine below_set ?_ GE500.out | refine below_set ?_ GE501.out) | exact HB.out)⟩
end Go.Proofs.Ytfiamddinkokbaa.F
end

section
set_option linter.unusedVariables false
set_option linter.unusedSimpArgs false
namespace Go.Proofs.Ytfiamddinkokbaa.F
open Go.RowKit Go.Shelf Go.Proofs.YtfiamddinkokbaaW.PrintWords
set_option linter.unusedVariables false
set_option linter.unusedSimpArgs false
def hunkP (st : Int) (g0 g1 g2 jl jb jr : ByteArray) : PP := ⟨⟨g0, if st = 0 then ⟨#[]⟩ else g1, g2⟩, true, ⟨#[]⟩, jl, if st = 0 then ⟨#[]⟩ else jb, jr, decide (st ≠ 0)⟩
def Stays (f : Nat) (w : World) (A : Option Addr) (c : Nat) (xs : List ByteArray) : Prop := xs.length ≤ c ∧ ∀ W, Keeps 106 f w W → Kd.C Kd.string W A xs.length xs
set_option maxHeartbeats 8000000 in
set_option maxRecDepth 100000 in
theorem conflict_calls {B f : Nat} {g0 g1 g2 : ByteArray} {st fv : Int} {l : List PP} {w : World} (pb : Bool) (p1 p2 p3 p4 p5 p6 cls : Int) (Ab Al Ar : Option Addr) (cb cl cr : Nat) (base left right : List ByteArray)
  (h : Bld B f f g0 g1 g2 st fv l w) (hsb : Stays f w Ab cb base) (hsl : Stays f w Al cl left) (hsr : Stays f w Ar cr right) (hl4 : left.length ≤ 4000000000) (hr4 : right.length ≤ 4000000000) (hll : l.length ≤ 1000000000) (jt jl jb jr ju : ByteArray)
  (hjt : lines_Join.f (left.take (hoN st left right)) = some jt) (hjl : lines_Join.f (midS left (hoN st left right) (hoM st left right)) = some jl) (hjr : lines_Join.f (midS right (hoN st left right) (hoM st left right)) = some jr) (hjb : st ≠ 0 → lines_Join.f base = some jb) (hju : lines_Join.f (left.drop (left.length - hoM st left right)) = some ju) (hBw : B ≤ w.heap.size) :
  Calls Try.prog 159 #[.pointer (some ⟨f, 0, none⟩), .agg #[.bool pb, .int .i64 p1, .int .i64 p2, .int .i64 p3, .int .i64 p4, .int .i64 p5, .int .i64 p6, .slice Ab base.length cb, .slice Al left.length cl, .slice Ar right.length cr, .int .i64 cls]] w fun e w' =>
   e = .returned (.tuple #[]) ∧ Bld B f f g0 g1 g2 st fv (l ++ [textPart jt, hunkP st g0 g1 g2 jl jb jr, textPart ju]) w' ∧ Below B w w' ∧ Keeps 106 f w w' := by
 obtain ⟨hcb, hb0⟩ := hsb
 obtain ⟨hcl, hl0⟩ := hsl
 obtain ⟨hcr, hr0⟩ := hsr
 have hb := hb0 w (Keeps.refl _ _ _)
 have hlf := hl0 w (Keeps.refl _ _ _)
 have hrt := hr0 w (Keeps.refl _ _ _)
 obtain ⟨hcut3, hC3, hc3⟩ := cut_CSt hlf hcl (hoN st left right) (by have := (ho_le st left right).1; omega)
 obtain ⟨A4, hcut4, hC4, hc4⟩ := cut_CSf (K := Keeps 106 f w) hl0 hcl (hoM st left right) (by have := (ho_le st left right).1; omega)
 have HJ3 := Aside0.mk (fun (hst : st ≠ 0) W (hb' : Below w.heap.size w W) => lines_Join.calls Ab cb base jb W (Kd.C_below hb hb') hcb (hjb hst))
 have HT1 := Aside0.mk (fun (l' : List PP) (X : Nat) (W : World) (hB' : Bld B f X g0 g1 g2 st fv l' W) (hk : Keeps 106 f w W) (hl' : l'.length ≤ 100000000000) (h1 : B ≤ W.heap.size) (h2 : X < W.heap.size) => text_calls Al cl _ jt hB' (cut_CSt (hl0 W hk) hcl (hoN st left right) (by have := (ho_le st left right).1; omega)).2.1 hc3 hjt hl' h1 h2)
 have HT2 := Aside0.mk (fun (l' : List PP) (X : Nat) (W : World) (hB' : Bld B f X g0 g1 g2 st fv l' W) (hk : Keeps 106 f w W) (hl' : l'.length ≤ 100000000000) (h1 : B ≤ W.heap.size) (h2 : X < W.heap.size) => text_calls A4 _ _ ju hB' (hC4 W hk) hc4 hju hl' h1 h2)
 have HLL := Aside0.mk hll
 have HBw := Aside0.mk hBw
 have HF := Aside0.mk h
 have c3 := h.c3
 have HO := Aside0.mk (fun W (hb : Below w.heap.size w W) => hoist_calls (w := W) (Kd.C_below hlf hb) (Kd.C_below hrt hb) hcl hcr hl4 hr4)
 have hfl := h.lt
 obtain ⟨A1, n1, hn1, hcut1, hC1, hc1⟩ := cut_CSm hlf hcl (hoN st left right) (hoM st left right) (ho_le st left right).1
 obtain ⟨A2, n2, hn2, hcut2, hC2, hc2⟩ := cut_CSm hrt hcr (hoN st left right) (hoM st left right) (ho_le st left right).2
 have HLE := Aside0.mk (ho_le st left right)
 subst hn1 hn2
 have HJ1 := Aside0.mk (fun W (hb : Below w.heap.size w W) => lines_Join.calls A1 _ _ jl W (Kd.C_below hC1 hb) hc1 hjl)
 have HJ2 := Aside0.mk (fun W (hb : Below w.heap.size w W) => lines_Join.calls A2 _ _ jr W (Kd.C_below hC2 hb) hc2 hjr)
 clear h hb hlf hrt hBw hjl hjr hC1 hC2 hc1 hc2 hC3 hC4 hc3 hc4 hjt hju hjb hb0 hl0 hr0 hll
 obtain ⟨n, hn⟩ : ∃ n, hoN st left right = n := ⟨_, rfl⟩
 obtain ⟨m, hm⟩ : ∃ m, hoM st left right = m := ⟨_, rfl⟩
 rw [hn, hm] at hcut1 hcut2 HLE HJ1 HJ2
 rw [hn] at hcut3 HT1
 rw [hm] at hcut4 HT2
 obtain ⟨lt, hlt⟩ : ∃ lt, left.take n = lt := ⟨_, rfl⟩
 obtain ⟨ld, hld⟩ : ∃ ld, left.drop (left.length - m) = ld := ⟨_, rfl⟩
 obtain ⟨cd, hcd⟩ : ∃ cd, cl - (left.length - m) = cd := ⟨_, rfl⟩
 rw [hlt] at hcut3 HT1
 rw [hld, hcd] at hcut4 HT2
 clear hlt hld hcd
 have HC3 := Aside0.mk hcut3
 have HC4 := Aside0.mk hcut4
 clear hcut3 hcut4
 have HN := Aside0.mk hn
 have HM := Aside0.mk hm
 clear hn hm
 go_enter Try.func159, Try.ntmps159
 obtain ⟨hp, hhp⟩ : ∃ hp, hp = w.heap.size := ⟨_, rfl⟩
 go_upto_if 11 with fail
 go_cut [4, 5] (fun v4 v5 wc => v4 = .int .i64 (n : Int) ∧ v5 = .int .i64 (m : Int) ∧ Aside0 (∃ q, wc = (w.alloc (.cells #[.bool pb, .int .i64 p1, .int .i64 p2, .int .i64 p3, .int .i64 p4, .int .i64 p5, .int .i64 p6, .slice Ab base.length cb, .slice Al left.length cl, .slice Ar right.length cr, .int .i64 cls] 179)).drewN q))
 case first =>
  by_cases hst : st = 2
  ·have q1 : (st == (2 : Int)) = true := by rw [hst]; rfl
   have e1 := HN.out
   have e2 := HM.out
   unfold hoN at e1; unfold hoM at e2
   rw [if_pos hst] at e1 e2
   clear hst HN HM
   go_wp2_with (first | (go_at_call 168; refine (HO.out _ (below_alloc (Below.refl _ _) _)).mono ?_; rintro e w1 ⟨rfl, hd⟩; have HD := Aside0.mk hd.out; clear hd))
   go_meet
   case rel => exact ⟨by rw [← e1], by rw [← e2], HD⟩
  ·have q1 : (st == (2 : Int)) = false := beq_eq_false_iff_ne.2 hst
   have e1 := HN.out
   have e2 := HM.out
   unfold hoN at e1; unfold hoM at e2
   rw [if_neg hst] at e1 e2
   clear hst HN HM
   go_wp2
   go_meet
   case rel => exact ⟨by rw [← e1]; rfl, by rw [← e2]; rfl, ⟨0, rfl⟩⟩
 case rest =>
  obtain ⟨rfl, rfl, HQ⟩ := hcut
  obtain ⟨q, rfl⟩ := HQ.out
  clear HQ HO HN HM
  have hbel := pw_below_drewN (below_alloc (Below.refl w.heap.size w) (.cells #[.bool pb, .int .i64 p1, .int .i64 p2, .int .i64 p3, .int .i64 p4, .int .i64 p5, .int .i64 p6, .slice Ab base.length cb, .slice Al left.length cl, .slice Ar right.length cr, .int .i64 cls] 179)) q
  have hbx : ((w.alloc (.cells #[.bool pb, .int .i64 p1, .int .i64 p2, .int .i64 p3, .int .i64 p4, .int .i64 p5, .int .i64 p6, .slice Ab base.length cb, .slice Al left.length cl, .slice Ar right.length cr, .int .i64 cls] 179)).drewN q).heap[w.heap.size]? = some (.cells #[.bool pb, .int .i64 p1, .int .i64 p2, .int .i64 p3, .int .i64 p4, .int .i64 p5, .int .i64 p6, .slice Ab base.length cb, .slice Al left.length cl, .slice Ar right.length cr, .int .i64 cls] 179 (0, 0)) := World.alloc_heap_new w _
  have HF0 := Aside0.mk (HF.out.below hbel)
  have HB := Aside0.mk hbel
  have HX := Aside0.mk hbx
  clear hbel hbx HF c3
  generalize (w.alloc (.cells #[.bool pb, .int .i64 p1, .int .i64 p2, .int .i64 p3, .int .i64 p4, .int .i64 p5, .int .i64 p6, .slice Ab base.length cb, .slice Al left.length cl, .slice Ar right.length cr, .int .i64 cls] 179)).drewN q = W0 at *
  rw [← hhp] at HX ⊢
  have HHP := Aside0.mk hhp
  clear hhp
  have a0 := HF0.out.c0
  have a1 := HF0.out.c1
  have a2 := HF0.out.c2
  have b8 := (blk_cell HX.out 8).trans (rfl : _ = some (Value.slice Al left.length cl))
  have b9 := (blk_cell HX.out 9).trans (rfl : _ = some (Value.slice Ar right.length cr))
  have z1 : 0 ≤ (left.length : Int) - (m : Int) := by have := HLE.out; omega
  have z2 : 0 ≤ (right.length : Int) - (m : Int) := by have := HLE.out; omega
  have z3 : (left.length : Int) - (m : Int) ≤ 4000000000 := by omega
  have z4 : (right.length : Int) - (m : Int) ≤ 4000000000 := by omega
  obtain ⟨u1, hu1⟩ : ∃ u1 : Int, (left.length : Int) - (m : Int) = u1 := ⟨_, rfl⟩
  obtain ⟨u2, hu2⟩ : ∃ u2 : Int, (right.length : Int) - (m : Int) = u2 := ⟨_, rfl⟩
  have y1 : IntKind.i64.wrap ((left.length : Int) - (m : Int)) = u1 := by rw [IntWalk.i64_in _ (by omega)]; exact hu1
  have y2 : IntKind.i64.wrap ((right.length : Int) - (m : Int)) = u2 := by rw [IntWalk.i64_in _ (by omega)]; exact hu2
  rw [hu1] at hcut1 z1 z3
  rw [hu2] at hcut2 z2 z4
  have HU1 := Aside0.mk hu1
  have HU2 := Aside0.mk hu2
  have z5 : (n : Int) ≤ u1 := by have := HLE.out; omega
  have z6 : (n : Int) ≤ u2 := by have := HLE.out; omega
  have z7 : u1 ≤ (cl : Int) := by omega
  have z8 : u2 ≤ (cr : Int) := by omega
  have z9 : (0 : Int) ≤ (n : Int) := by omega
  clear hu1 hu2
  have hS : W0.cell? ⟨f, 0, none⟩ = some (.string g0) ∧ W0.cell? ⟨f, 1, none⟩ = some (.string g1) ∧ W0.cell? ⟨f, 2, none⟩ = some (.string g2) ∧ W0.cell? ⟨hp, 8, none⟩ = some (.slice Al left.length cl) ∧ W0.cell? ⟨hp, 9, none⟩ = some (.slice Ar right.length cr) ∧ Below W0.heap.size W0 W0 := ⟨a0, a1, a2, b8, b9, Below.refl _ _⟩
  go_upto_region 5 with (fail)
  go_cut [6] (fun v6 wc => ∃ hx, v6 = .pointer (some ⟨hx, 0, none⟩) ∧ Aside0 (W0.heap.size ≤ hx) ∧ Aside0 (wc.heap[hx]? = some (.cells #[.string g0, .string g1, .string g2, .bool true, .string ⟨#[]⟩, .string jl, .string ⟨#[]⟩, .string jr, .bool false] 106 (0, 0))) ∧ Aside0 (Below W0.heap.size W0 wc))
  case first =>
   have tk1 : True := trivial
   have tk2 : True := trivial
   have HQ : Aside0 (Below W0.heap.size W0 W0.drew) := ⟨below_drew (Below.refl _ _)⟩
   go_wp2
   go_region_held3 (fun w' => w'.cell? ⟨f, 0, none⟩ = some (.string g0) ∧ w'.cell? ⟨f, 1, none⟩ = some (.string g1) ∧ w'.cell? ⟨f, 2, none⟩ = some (.string g2) ∧ w'.cell? ⟨hp, 8, none⟩ = some (.slice Al left.length cl) ∧ w'.cell? ⟨hp, 9, none⟩ = some (.slice Ar right.length cr) ∧ Below W0.heap.size W0 w')
    (first | ((with_reducible refine keep5 (W := W0) ?_ hS); (first | (with_reducible exact HQ.out) | (with_reducible exact below_alloc HQ.out _) | (with_reducible exact below_drew (below_alloc (Below.refl _ _) _)) | exact below_set9 HQ.out HK.out _ _ _ _ _ _ _ _ _)))
    (first
     | ((refine Go.Proofs.YtfiamddinkokbaaW.PrintLast.goes_ Try.func33 (by kernel_rfl) rfl #[.slice A1 (midS left n m).length (cl - n)] (by rfl) rfl rfl (by (try simp only [List.map_toArray, List.map_cons, List.map_nil]); rfl) ?_; have _t := tk1; refine (HJ1.out _ (by first | (with_reducible exact below_step HB.out HQ.out) | (with_reducible exact below_step HB.out (below_alloc HQ.out _)) | (with_reducible exact below_step HB.out (below_drew (below_alloc (Below.refl _ _) _))))).mono ?_; rintro e w1 ⟨rfl, hb1⟩; have hq : Below W0.heap.size W0 w1 := (by refine below_step ?_ hb1; first | (with_reducible exact HQ.out) | (with_reducible exact below_alloc HQ.out _) | (with_reducible exact below_drew (below_alloc (Below.refl _ _) _))); have hk0 := HQ.out.size; clear tk1 HQ; have HQ := Aside0.mk hq; clear hq; (first | ((first | have hz := after_alloc hb1 | have hz := after_alloc_drew hb1); have HK := Aside0.mk hk0; obtain ⟨e0, e1, e2, e3, e4, e5, e6, e7, e8, f0, f1, f2, f3, f4, f5, f6, f7, f8⟩ := zero_facts hz; have HZ := Aside0.mk hz; clear hz) | (have hz := after_call hb1 HZ.out; clear HZ e0 e1 e2 e3 e4 e5 e6 e7 e8 f0 f1 f2 f3 f4 f5 f6 f7 f8; obtain ⟨e0, e1, e2, e3, e4, e5, e6, e7, e8, f0, f1, f2, f3, f4, f5, f6, f7, f8⟩ := zero_facts hz; have HZ := Aside0.mk hz; clear hz) | skip); clear hk0; refine ⟨_, rfl, ?_⟩))
     | ((refine Go.Proofs.YtfiamddinkokbaaW.PrintLast.goes_ Try.func33 (by kernel_rfl) rfl #[.slice A2 (midS right n m).length (cr - n)] (by rfl) rfl rfl (by (try simp only [List.map_toArray, List.map_cons, List.map_nil]); rfl) ?_; have _t := tk2; refine (HJ2.out _ (by first | (with_reducible exact below_step HB.out HQ.out) | (with_reducible exact below_step HB.out (below_alloc HQ.out _)) | (with_reducible exact below_step HB.out (below_drew (below_alloc (Below.refl _ _) _))))).mono ?_; rintro e w1 ⟨rfl, hb1⟩; have hq : Below W0.heap.size W0 w1 := (by refine below_step ?_ hb1; first | (with_reducible exact HQ.out) | (with_reducible exact below_alloc HQ.out _) | (with_reducible exact below_drew (below_alloc (Below.refl _ _) _))); have hk0 := HQ.out.size; clear tk2 HQ; have HQ := Aside0.mk hq; clear hq; (first | ((first | have hz := after_alloc hb1 | have hz := after_alloc_drew hb1); have HK := Aside0.mk hk0; obtain ⟨e0, e1, e2, e3, e4, e5, e6, e7, e8, f0, f1, f2, f3, f4, f5, f6, f7, f8⟩ := zero_facts hz; have HZ := Aside0.mk hz; clear hz) | (have hz := after_call hb1 HZ.out; clear HZ e0 e1 e2 e3 e4 e5 e6 e7 e8 f0 f1 f2 f3 f4 f5 f6 f7 f8; obtain ⟨e0, e1, e2, e3, e4, e5, e6, e7, e8, f0, f1, f2, f3, f4, f5, f6, f7, f8⟩ := zero_facts hz; have HZ := Aside0.mk hz; clear hz) | skip); clear hk0; refine ⟨_, rfl, ?_⟩)))
   all_goals go_wp2
   all_goals go_meet
   all_goals first
    | exact ⟨_, rfl, ⟨HQ.out.size⟩, ⟨World.alloc_heap_new _ _⟩, ⟨below_alloc HQ.out _⟩⟩
    | exact ⟨_, rfl, HK, ⟨block_set9 HZ.out _ _ _ _ _ _ _ _ _⟩, ⟨below_set9 HQ.out HK.out _ _ _ _ _ _ _ _ _⟩⟩
  case rest =>
   obtain ⟨hx, rfl, HH, HZ, HW⟩ := hcut
   have h3 := HF0.out.c3
   have c3 : wc.cell? ⟨f, 3, none⟩ = some (.int .i64 st) := (HW.out.cell (World.block_lt_of_cell? W0 _ h3)).trans h3
   have b7 := (blk_cell HX.out 7).trans (rfl : _ = some (Value.slice Ab base.length cb))
   have c7 : wc.cell? ⟨hp, 7, none⟩ = some (Value.slice Ab base.length cb) := (HW.out.cell (World.block_lt_of_cell? W0 _ b7)).trans b7
   have hxlt := (Array.getElem?_eq_some_iff.1 HZ.out).1
   obtain ⟨gb, hgb⟩ : ∃ gb, (if st = 0 then ⟨#[]⟩ else g1) = gb := ⟨_, rfl⟩
   obtain ⟨kb, hkb⟩ : ∃ kb, (if st = 0 then ⟨#[]⟩ else jb) = kb := ⟨_, rfl⟩
   obtain ⟨ub, hub⟩ : ∃ ub, decide (st ≠ 0) = ub := ⟨_, rfl⟩
   have HPart : Aside0 (hunkP st g0 g1 g2 jl jb jr = ⟨⟨g0, gb, g2⟩, true, ⟨#[]⟩, jl, kb, jr, ub⟩) := ⟨by unfold hunkP; rw [hgb, hkb, hub]⟩
   have HGB := Aside0.mk hgb
   have HKB := Aside0.mk hkb
   have HUB := Aside0.mk hub
   clear h3 b7 a0 a1 a2 b8 b9 hS hcut1 hcut2 HJ1 HJ2 y1 y2 hgb hkb hub
   go_upto_if 49 with fail
   go_cut [49] (fun _ wd => Aside0 (wd.heap[hx]? = some (.cells #[.string g0, .string gb, .string g2, .bool true, .string ⟨#[]⟩, .string jl, .string kb, .string jr, .bool ub] 106 (0, 0))) ∧ Aside0 (Below W0.heap.size W0 wd))
   case first =>
    have d1 := (blk_cell HZ.out 1).trans (rfl : _ = some (Value.string g1))
    have d6 := (blk_cell HZ.out 6).trans (rfl : _ = some (Value.string ⟨#[]⟩))
    have d8 := (blk_cell HZ.out 8).trans (rfl : _ = some (Value.bool false))
    have k1 := Lib.frozen_of_heap HZ.out 1
    have k6 := Lib.frozen_of_heap HZ.out 6
    have k8 := Lib.frozen_of_heap HZ.out 8
    by_cases hst : st = 0
    ·have q1 : (st == (0 : Int)) = true := by rw [hst]; rfl
     have e1 := HGB.out
     have e2 := HKB.out
     have e3 := HUB.out
     rw [if_pos hst] at e1 e2
     rw [decide_eq_false (by omega)] at e3
     subst e1 e2 e3
     clear hst
     go_wp2
     go_meet
     case rel => exact ⟨⟨by simp [World.setCell, Array.getElem?_modify, HZ.out]⟩, ⟨HW.out.setCell (p := ⟨hx, 1, none⟩) HH.out _⟩⟩
    ·have q1 : (st == (0 : Int)) = false := beq_eq_false_iff_ne.2 hst
     have e1 := HGB.out
     have e2 := HKB.out
     have e3 := HUB.out
     rw [if_neg hst] at e1 e2
     rw [decide_eq_true hst] at e3
     subst e1 e2 e3
     have HJ3' := Aside0.mk (HJ3.out hst)
     clear hst HJ3
     go_wp2_with (first | (go_at_call 33; refine (HJ3'.out _ (below_step HB.out HW.out)).mono ?_; rintro e w2 ⟨rfl, hb2⟩; have HW2 := Aside0.mk (below_step HW.out hb2); have HZ2 := Aside0.mk (after_call hb2 HZ.out); clear d1 d6 d8 k1 k6 k8 hb2; have d6 := (blk_cell HZ2.out 6).trans (rfl : _ = some (Value.string ⟨#[]⟩)); have d8 := (blk_cell HZ2.out 8).trans (rfl : _ = some (Value.bool false)); have k6 := Lib.frozen_of_heap HZ2.out 6; have k8 := Lib.frozen_of_heap HZ2.out 8))
     go_meet
     case rel => exact ⟨⟨by simp [World.setCell, Array.getElem?_modify, HZ2.out]⟩, ⟨(HW2.out.setCell (p := ⟨hx, 8, none⟩) HH.out _).setCell (p := ⟨hx, 6, none⟩) HH.out _⟩⟩
   case rest =>
    obtain ⟨HY, HV⟩ := hcut
    have HFx := Aside0.mk (HF0.out.fresh HH.out HV.out)
    have HXd := Aside0.mk (after_call HV.out HX.out)
    have b8 := (blk_cell HXd.out 8).trans (rfl : _ = some (Value.slice Al left.length cl))
    have HK1 := Aside0.mk ((Keeps.below (T := 106) (b := f) HB.out).trans (Keeps.below HV.out))
    have HBd := Aside0.mk (below_step HB.out HV.out)
    have hs1 : B ≤ wc.heap.size := Nat.le_trans HBw.out HBd.out.size
    have hs2 : hx < wc.heap.size := (Array.getElem?_eq_some_iff.1 HY.out).1
    have HNX : Aside0 (hx ≠ f) := ⟨by have := HF0.out.lt; have := HH.out; omega⟩
    have HNP : Aside0 (hp ≠ f) := ⟨by have := HHP.out; omega⟩
    have hl1 : l.length ≤ 100000000000 := by have := HLL.out; omega
    have hcut3 := HC3.out
    clear HF0 HX HB HW HZ HV c3 c7 HJ3 hxlt
    go_wp2_with (first | (go_at_call 158; (with_reducible refine (HT1.out l hx _ HFx.out HK1.out hl1 hs1 hs2).mono ?_); rintro e w3 ⟨rfl, hB3, hb3, hk3, hx3⟩; have HB3 := Aside0.mk hB3; have HK3 := Aside0.mk (HK1.out.trans hk3); have HY3 := Aside0.mk ((hx3 HNX.out).trans HY.out); have HX3 := Aside0.mk (hk3.cell HXd.out (by decide) HNP.out); have HW3 := Aside0.mk (Below.trans (HBd.out.mono HBw.out) hb3); clear hB3 hb3 hk3 hx3 HFx HXd HK1 HBd hs1 hs2 HY b8 hcut3))
    obtain ⟨v, h0, h1, hR⟩ := HB3.out
    obtain ⟨Av, cv, rfl⟩ := Kd.R_slice hR
    have c5 := (blk_cell h1 5).trans (rfl : _ = some (Value.slice Av (l ++ [textPart jt]).length cv))
    have HS := Aside0.mk h1
    have HF3 := Aside0.mk h0
    have HR := Aside0.mk (Kd.R_drew hR)
    have HL3 : Aside0 (B ≤ w3.heap.size) := ⟨Nat.le_trans HBw.out HW3.out.size⟩
    have HFr : Aside0 (∀ k, w3.heap.size ≤ k → k ≠ f ∧ k ≠ hx) := ⟨fun k hk => ⟨fun e => by have := (Array.getElem?_eq_some_iff.1 HS.out).1; omega, fun e => by have := (Array.getElem?_eq_some_iff.1 HY3.out).1; omega⟩⟩
    have hl3 : (l ++ [textPart jt]).length ≤ 100000000001 := by simp only [List.length_append, List.length_singleton]; omega
    clear h0 h1 hR HB3
    have d0 := (blk_cell HY3.out 0).trans (rfl : _ = some (Value.string g0)); have d1 := (blk_cell HY3.out 1).trans (rfl : _ = some (Value.string gb)); have d2 := (blk_cell HY3.out 2).trans (rfl : _ = some (Value.string g2)); have d3 := (blk_cell HY3.out 3).trans (rfl : _ = some (Value.bool true)); have d4 := (blk_cell HY3.out 4).trans (rfl : _ = some (Value.string ⟨#[]⟩)); have d5 := (blk_cell HY3.out 5).trans (rfl : _ = some (Value.string jl)); have d6 := (blk_cell HY3.out 6).trans (rfl : _ = some (Value.string kb)); have d7 := (blk_cell HY3.out 7).trans (rfl : _ = some (Value.string jr)); have d8 := (blk_cell HY3.out 8).trans (rfl : _ = some (Value.bool ub))
    have c53 : ∀ o, (w3.alloc o).cell? ⟨f, 5, none⟩ = some (Value.slice Av (l ++ [textPart jt]).length cv) := fun o => tr1 o c5
    generalize hl3e : l ++ [textPart jt] = l3 at *
    have HL3E := Aside0.mk hl3e
    clear hl3e
    go_region_law (refine Kd.R_append_step k106 (w0 := w) (W := w3.drew) B (by rfl) (.tmp 67) (.tmp 69) 28 106 (.agg #[.string ⟨#[]⟩, .string ⟨#[]⟩, .string ⟨#[]⟩, .bool false, .string ⟨#[]⟩, .string ⟨#[]⟩, .string ⟨#[]⟩, .string ⟨#[]⟩, .bool false]) 128 (by rfl) Try.underlying28 part_info rfl (by decide) (by omega) (.slice Av l3.length cv) l3 (⟨⟨g0, gb, g2⟩, true, ⟨#[]⟩, jl, kb, jr, ub⟩ : PP) [.string g0, .string gb, .string g2, .bool true, .string ⟨#[]⟩, .string jl, .string kb, .string jr, .bool ub] (fun k => k ≠ f ∧ k ≠ hx) (fun _ => False) (by rfl) (by rfl) (k106_mkM _ _ _ _) (fun _ hk => hk.elim) HFr.out HR.out (below_drew HW3.out) HL3.out (by omega) ?_; intro v1 w4 ho hb hg1 hat; obtain ⟨Aw, cw, rfl⟩ := Kd.R_slice ho; obtain ⟨hf1, hfin⟩ := bld_put (W := w3.drew) HF3.out HS.out HR.out ho hg1; have c52 := (blk_cell hf1 5).trans (rfl : _ = some (Value.slice Av l3.length cv)); have f52 := Lib.frozen_of_heap hf1 5; have HF5 : Aside0 (Bld B f hx g0 g1 g2 st fv (l3 ++ [(⟨⟨g0, gb, g2⟩, true, ⟨#[]⟩, jl, kb, jr, ub⟩ : PP)]) (w4.setCell ⟨f, 5, none⟩ (.slice Aw (l3.length + 1) cw))) := ⟨by simpa only [List.length_append, List.length_singleton] using hfin⟩; have HB5 : Aside0 (Below B w (w4.setCell ⟨f, 5, none⟩ (.slice Aw (l3.length + 1) cw))) := ⟨hb.setCell (p := ⟨f, 5, none⟩) HF3.out _⟩; have HK5 : Aside0 (Keeps 106 f w (w4.setCell ⟨f, 5, none⟩ (.slice Aw (l3.length + 1) cw))) := ⟨((HK3.out.drewN 1).grown hg1 (Kd.R_typed HR.out)).set 5 _⟩; have HX5 := Aside0.mk (((((Keeps.refl 106 f w3).drewN 1).grown hg1 (Kd.R_typed HR.out)).set 5 (.slice Aw (l3.length + 1) cw)).cell HX3.out (by decide) HNP.out); have HS5 : Aside0 (hx < (w4.setCell ⟨f, 5, none⟩ (.slice Aw (l3.length + 1) cw)).heap.size) := ⟨by have h1 := hg1.size; have h2 := (Array.getElem?_eq_some_iff.1 HY3.out).1; rw [World.size_setCell]; exact Nat.lt_of_lt_of_le h2 h1⟩; clear ho hb hg1 hat hfin hf1)
    all_goals
     generalize (w4.setCell ⟨f, 5, none⟩ (.slice Aw (l3.length + 1) cw)) = w5 at *
     have b8 := (blk_cell HX5.out 8).trans (rfl : _ = some (Value.slice Al left.length cl))
     have hs1 : B ≤ w5.heap.size := Nat.le_trans HBw.out HB5.out.size
     have hs2 := HS5.out
     have hm4 : (m : Int) ≤ (left.length : Int) := by have := HLE.out; omega
     have hl5 : (l3 ++ [(⟨⟨g0, gb, g2⟩, true, ⟨#[]⟩, jl, kb, jr, ub⟩ : PP)]).length ≤ 100000000000 := by have := HLL.out; rw [← HL3E.out]; simp only [List.length_append, List.length_singleton]; omega
     have hcut4 := HC4.out
     clear c5 c52 f52 c53 d0 d1 d2 d3 d4 d5 d6 d7 d8 HS HR HFr HY3 HX3 HW3 HK3
     go_wp2_with (first | (go_at_call 158; (with_reducible refine (HT2.out _ hx _ HF5.out HK5.out hl5 hs1 hs2).mono ?_); rintro e w6 ⟨rfl, hB6, hb6, hk6, hx6⟩; have HB6 := Aside0.mk hB6.weaken; have HK6 := Aside0.mk (HK5.out.trans hk6); have HW6 := Aside0.mk (Below.trans HB5.out hb6); clear hB6 hb6 hk6 hx6))
     go_end0
     refine ⟨rfl, ?_, HW6.out, HK6.out⟩
     have := HB6.out
     rw [← HL3E.out, ← HPart.out] at this
     simpa only [List.append_assoc, List.cons_append, List.nil_append] using this
end Go.Proofs.Ytfiamddinkokbaa.F
end

section
set_option linter.unusedVariables false
set_option linter.unusedSimpArgs false
namespace Go.Proofs.Ytfiamddinkokbaa.F
open Go.RowKit Go.Shelf Go.Proofs.YtfiamddinkokbaaW.PrintWords
set_option linter.unusedVariables false
set_option linter.unusedSimpArgs false
def confPs (st : Int) (g0 g1 g2 : ByteArray) (b l r : List ByteArray) : Option (List PP) :=
 if l.length ≤ 4000000000 ∧ r.length ≤ 4000000000 then
  (lines_Join.f (l.take (hoN st l r))).bind fun jt => (lines_Join.f (midS l (hoN st l r) (hoM st l r))).bind fun jl => (lines_Join.f (midS r (hoN st l r) (hoM st l r))).bind fun jr =>
   (if st = 0 then some ⟨#[]⟩ else lines_Join.f b).bind fun jb => (lines_Join.f (l.drop (l.length - hoM st l r))).bind fun ju => some [textPart jt, hunkP st g0 g1 g2 jl jb jr, textPart ju]
 else none
def textPs (l : List ByteArray) : Option (List PP) := (lines_Join.f l).bind fun j => some [textPart j]
def piecePs (st fv : Int) (g0 g1 g2 : ByteArray) (k : Int) (b l r : List ByteArray) : Option (List PP) :=
 if k = 0 then textPs b else if k = 1 ∨ k = 3 ∨ (k = 4 ∧ fv = 1) then textPs l else if k = 2 ∨ fv = 3 then textPs r else confPs st g0 g1 g2 b l r
theorem Stays.keep {f : Nat} {w W : World} {A : Option Addr} {c : Nat} {xs : List ByteArray} (h : Stays f w A c xs) (hk : Keeps 106 f w W) : Stays f W A c xs := ⟨h.1, fun W' hk' => h.2 W' (hk.trans hk')⟩
def Pieced (B f : Nat) (g0 g1 g2 : ByteArray) (st fv : Int) (l : List PP) (w : World) (e : Ending) (w' : World) : Prop := e = .returned (.tuple #[]) ∧ Bld B f f g0 g1 g2 st fv l w' ∧ Below B w w' ∧ Keeps 106 f w w'
theorem text_piece {B f : Nat} {g0 g1 g2 : ByteArray} {st fv : Int} {l ps : List PP} {w W : World} {A : Option Addr} {c : Nat} {xs : List ByteArray} (h : Bld B f f g0 g1 g2 st fv l w) (hs : Stays f w A c xs) (hl : l.length ≤ 1000000000) (hp : textPs xs = some ps) (hBw : B ≤ w.heap.size) (hb : Below w.heap.size w W) :
  Calls Try.prog 158 #[.pointer (some ⟨f, 0, none⟩), .slice A xs.length c] W (Pieced B f g0 g1 g2 st fv (l ++ ps) w) := by
 obtain ⟨j, hj, h2⟩ := Option.bind_eq_some_iff.1 hp
 obtain rfl := Option.some.inj h2
 refine (text_calls A c xs j (h.below hb) (hs.2 W (Keeps.below hb)) hs.1 hj (by omega) (Nat.le_trans hBw hb.size) (Nat.lt_of_lt_of_le h.lt hb.size)).mono ?_
 rintro e w' ⟨rfl, h1, h2, h3, _⟩
 exact ⟨rfl, h1, Below.trans (hb.mono hBw) h2, (Keeps.below hb).trans h3⟩
theorem conf_piece {B f : Nat} {g0 g1 g2 : ByteArray} {st fv : Int} {l ps : List PP} {w W : World} (pb : Bool) (p1 p2 p3 p4 p5 p6 cls : Int) {Ab Al Ar : Option Addr} {cb cl cr : Nat} {base left right : List ByteArray}
  (h : Bld B f f g0 g1 g2 st fv l w) (hsb : Stays f w Ab cb base) (hsl : Stays f w Al cl left) (hsr : Stays f w Ar cr right) (hl : l.length ≤ 1000000000) (hp : confPs st g0 g1 g2 base left right = some ps) (hBw : B ≤ w.heap.size) (hb : Below w.heap.size w W) :
  Calls Try.prog 159 #[.pointer (some ⟨f, 0, none⟩), .agg #[.bool pb, .int .i64 p1, .int .i64 p2, .int .i64 p3, .int .i64 p4, .int .i64 p5, .int .i64 p6, .slice Ab base.length cb, .slice Al left.length cl, .slice Ar right.length cr, .int .i64 cls]] W (Pieced B f g0 g1 g2 st fv (l ++ ps) w) := by
 unfold confPs at hp
 split at hp
 case isFalse => cases hp
 case isTrue hlen =>
 obtain ⟨jt, h1, hp⟩ := Option.bind_eq_some_iff.1 hp
 obtain ⟨jl, h2, hp⟩ := Option.bind_eq_some_iff.1 hp
 obtain ⟨jr, h3, hp⟩ := Option.bind_eq_some_iff.1 hp
 obtain ⟨jb, h4, hp⟩ := Option.bind_eq_some_iff.1 hp
 obtain ⟨ju, h5, hp⟩ := Option.bind_eq_some_iff.1 hp
 obtain rfl := Option.some.inj hp
 have hk := Keeps.below (T := 106) (b := f) hb
 refine (conflict_calls pb p1 p2 p3 p4 p5 p6 cls Ab Al Ar cb cl cr base left right (h.below hb) (hsb.keep hk) (hsl.keep hk) (hsr.keep hk) hlen.1 hlen.2 hl jt jl jb jr ju h1 h2 h3 (fun hst => by rwa [if_neg hst] at h4) h5 (Nat.le_trans hBw hb.size)).mono ?_
 rintro e w' ⟨rfl, h1, h2, h3⟩
 exact ⟨rfl, h1, Below.trans (hb.mono hBw) h2, hk.trans h3⟩
set_option maxHeartbeats 8000000 in
set_option maxRecDepth 100000 in
theorem piece_calls {B f : Nat} {g0 g1 g2 : ByteArray} {st fv : Int} {l ps : List PP} {w : World} (pb : Bool) (p1 p2 p3 p4 p5 p6 cls : Int) (Ab Al Ar : Option Addr) (cb cl cr : Nat) (base left right : List ByteArray)
  (h : Bld B f f g0 g1 g2 st fv l w) (hsb : Stays f w Ab cb base) (hsl : Stays f w Al cl left) (hsr : Stays f w Ar cr right) (hl : l.length ≤ 1000000000) (hp : piecePs st fv g0 g1 g2 cls base left right = some ps) (hBw : B ≤ w.heap.size) :
  Calls Try.prog 136 #[.pointer (some ⟨f, 0, none⟩), .agg #[.bool pb, .int .i64 p1, .int .i64 p2, .int .i64 p3, .int .i64 p4, .int .i64 p5, .int .i64 p6, .slice Ab base.length cb, .slice Al left.length cl, .slice Ar right.length cr, .int .i64 cls]] w (Pieced B f g0 g1 g2 st fv (l ++ ps) w) := by
 have c4 := h.c4
 have hfl := h.lt
 have HB := Aside0.mk h
 have HTb := Aside0.mk (fun (hq : textPs base = some ps) W (hb : Below w.heap.size w W) => text_piece h hsb hl hq hBw hb)
 have HTl := Aside0.mk (fun (hq : textPs left = some ps) W (hb : Below w.heap.size w W) => text_piece h hsl hl hq hBw hb)
 have HTr := Aside0.mk (fun (hq : textPs right = some ps) W (hb : Below w.heap.size w W) => text_piece h hsr hl hq hBw hb)
 have HCf := Aside0.mk (fun (hq : confPs st g0 g1 g2 base left right = some ps) W (hb : Below w.heap.size w W) => conf_piece pb p1 p2 p3 p4 p5 p6 cls h hsb hsl hsr hl hq hBw hb)
 clear h hsb hsl hsr hl hBw
 generalize l ++ ps = lr at *
 unfold piecePs at hp
 by_cases k0 : cls = 0
 ·rw [if_pos k0] at hp
  have HT := Aside0.mk (HTb.out hp)
  have q0 : (cls == (0 : Int)) = true := beq_iff_eq.2 k0
  clear HTb HTl HTr HCf hp k0
  go_enter Try.func136, Try.ntmps136
  go_wp2_with (first | (go_at_call 158; (with_reducible refine (HT.out _ (below_alloc (Below.refl _ _) _)).mono ?_); rintro e w3 ⟨rfl, r1, r2, r3⟩; have R1 := Aside0.mk r1; have R2 := Aside0.mk r2; have R3 := Aside0.mk r3; clear r1 r2 r3))
  go_end0
  exact ⟨rfl, R1.out, R2.out, R3.out⟩
 rw [if_neg k0] at hp
 have q0 : (cls == (0 : Int)) = false := beq_eq_false_iff_ne.2 k0
 by_cases k1 : cls = 1 ∨ cls = 3 ∨ (cls = 4 ∧ fv = 1)
 ·rw [if_pos k1] at hp
  have HT := Aside0.mk (HTl.out hp)
  clear HTb HTl HTr HCf hp k0
  rcases k1 with k1 | k1 | ⟨k1, k2⟩
  ·have q1 : (cls == (1 : Int)) = true := beq_iff_eq.2 k1
   clear k1
   go_enter Try.func136, Try.ntmps136
   go_wp2_with (first | (go_at_call 158; (with_reducible refine (HT.out _ (below_alloc (Below.refl _ _) _)).mono ?_); rintro e w3 ⟨rfl, r1, r2, r3⟩; have R1 := Aside0.mk r1; have R2 := Aside0.mk r2; have R3 := Aside0.mk r3; clear r1 r2 r3))
   go_end0
   exact ⟨rfl, R1.out, R2.out, R3.out⟩
  ·have q1 : (cls == (1 : Int)) = false := beq_eq_false_iff_ne.2 (by omega)
   have q3 : (cls == (3 : Int)) = true := beq_iff_eq.2 k1
   clear k1
   go_enter Try.func136, Try.ntmps136
   go_wp2_with (first | (go_at_call 158; (with_reducible refine (HT.out _ (below_alloc (Below.refl _ _) _)).mono ?_); rintro e w3 ⟨rfl, r1, r2, r3⟩; have R1 := Aside0.mk r1; have R2 := Aside0.mk r2; have R3 := Aside0.mk r3; clear r1 r2 r3))
   go_end0
   exact ⟨rfl, R1.out, R2.out, R3.out⟩
  ·have q1 : (cls == (1 : Int)) = false := beq_eq_false_iff_ne.2 (by omega)
   have q3 : (cls == (3 : Int)) = false := beq_eq_false_iff_ne.2 (by omega)
   have q4 : (cls == (4 : Int)) = true := beq_iff_eq.2 k1
   have qf : (fv == (1 : Int)) = true := beq_iff_eq.2 k2
   clear k1 k2
   go_enter Try.func136, Try.ntmps136
   go_wp2_with (first | (go_at_call 158; (with_reducible refine (HT.out _ (below_alloc (Below.refl _ _) _)).mono ?_); rintro e w3 ⟨rfl, r1, r2, r3⟩; have R1 := Aside0.mk r1; have R2 := Aside0.mk r2; have R3 := Aside0.mk r3; clear r1 r2 r3))
   go_end0
   exact ⟨rfl, R1.out, R2.out, R3.out⟩
 rw [if_neg k1] at hp
 have q1 : (cls == (1 : Int)) = false := beq_eq_false_iff_ne.2 (by omega)
 have q3 : (cls == (3 : Int)) = false := beq_eq_false_iff_ne.2 (by omega)
 by_cases k2 : cls = 2 ∨ fv = 3
 ·rw [if_pos k2] at hp
  have HT := Aside0.mk (HTr.out hp)
  clear HTb HTl HTr HCf hp
  by_cases k3 : cls = 2
  ·have q2 : (cls == (2 : Int)) = true := beq_iff_eq.2 k3
   have q4 : (cls == (4 : Int)) = false := beq_eq_false_iff_ne.2 (by omega)
   clear k0 k1 k2 k3
   go_enter Try.func136, Try.ntmps136
   go_wp2_with (first | (go_at_call 158; (with_reducible refine (HT.out _ (below_alloc (Below.refl _ _) _)).mono ?_); rintro e w3 ⟨rfl, r1, r2, r3⟩; have R1 := Aside0.mk r1; have R2 := Aside0.mk r2; have R3 := Aside0.mk r3; clear r1 r2 r3))
   go_end0
   exact ⟨rfl, R1.out, R2.out, R3.out⟩
  ·have q2 : (cls == (2 : Int)) = false := beq_eq_false_iff_ne.2 k3
   have qf : (fv == (3 : Int)) = true := beq_iff_eq.2 (by omega)
   have qg : (fv == (1 : Int)) = false := beq_eq_false_iff_ne.2 (by omega)
   cases q4 : (cls == (4 : Int)) with
   | true =>
    clear k0 k1 k2 k3
    go_enter Try.func136, Try.ntmps136
    go_wp2_with (first | (go_at_call 158; (with_reducible refine (HT.out _ (below_alloc (Below.refl _ _) _)).mono ?_); rintro e w3 ⟨rfl, r1, r2, r3⟩; have R1 := Aside0.mk r1; have R2 := Aside0.mk r2; have R3 := Aside0.mk r3; clear r1 r2 r3))
    go_end0
    exact ⟨rfl, R1.out, R2.out, R3.out⟩
   | false =>
    clear k0 k1 k2 k3
    go_enter Try.func136, Try.ntmps136
    go_wp2_with (first | (go_at_call 158; (with_reducible refine (HT.out _ (below_alloc (Below.refl _ _) _)).mono ?_); rintro e w3 ⟨rfl, r1, r2, r3⟩; have R1 := Aside0.mk r1; have R2 := Aside0.mk r2; have R3 := Aside0.mk r3; clear r1 r2 r3))
    go_end0
    exact ⟨rfl, R1.out, R2.out, R3.out⟩
 ·rw [if_neg k2] at hp
  have HT := Aside0.mk (HCf.out hp)
  clear HTb HTl HTr HCf hp
  have q2 : (cls == (2 : Int)) = false := beq_eq_false_iff_ne.2 (by omega)
  have qf : (fv == (3 : Int)) = false := beq_eq_false_iff_ne.2 (by omega)
  cases q4 : (cls == (4 : Int)) with
  | true =>
   have qg : (fv == (1 : Int)) = false := beq_eq_false_iff_ne.2 (by have := beq_iff_eq.1 q4; omega)
   clear k0 k1 k2
   go_enter Try.func136, Try.ntmps136
   go_wp2_with (first | (go_at_call 159; (with_reducible refine (HT.out _ (below_alloc (Below.refl _ _) _)).mono ?_); rintro e w3 ⟨rfl, r1, r2, r3⟩; have R1 := Aside0.mk r1; have R2 := Aside0.mk r2; have R3 := Aside0.mk r3; clear r1 r2 r3))
   go_end0
   exact ⟨rfl, R1.out, R2.out, R3.out⟩
  | false =>
   clear k0 k1 k2
   go_enter Try.func136, Try.ntmps136
   go_wp2_with (first | (go_at_call 159; (with_reducible refine (HT.out _ (below_alloc (Below.refl _ _) _)).mono ?_); rintro e w3 ⟨rfl, r1, r2, r3⟩; have R1 := Aside0.mk r1; have R2 := Aside0.mk r2; have R3 := Aside0.mk r3; clear r1 r2 r3))
   go_end0
   exact ⟨rfl, R1.out, R2.out, R3.out⟩
end Go.Proofs.Ytfiamddinkokbaa.F
end

section
set_option linter.unusedVariables false
set_option linter.unusedSimpArgs false
namespace Go.Proofs.Ytfiamddinkokbaa.F
open Go.RowKit Go.Shelf Go.Proofs.YtfiamddinkokbaaW.PrintWords
set_option linter.unusedVariables false
set_option linter.unusedSimpArgs false
abbrev SCh := S91
def docL (k : Nat) (B L R : List ByteArray) (st fv : Int) (g0 g1 g2 : ByteArray) : List SCh → List PP → Option (List PP)
 | [], acc => some acc
 | c :: cs, acc => (build_Files_cut.f k B L R c.f0 c.f1.f0 c.f1.f1 c.f2.f0 c.f2.f1 c.f3.f0 c.f3.f1).bind fun t =>
   (piecePs st fv g0 g1 g2 t.2.2.2.2.2.2.2.2.2.2 t.2.2.2.2.2.2.2.1 t.2.2.2.2.2.2.2.2.1 t.2.2.2.2.2.2.2.2.2.1).bind fun ps => if acc.length ≤ 1000000000 then docL k B L R st fv g0 g1 g2 cs (acc ++ ps) else none
def docF (k : Nat) (B L R : List ByteArray) (l : List SCh) (st : Int) (g0 g1 g2 : ByteArray) (fv : Int) : Option (List PP × Int) :=
 if st < 0 ∨ 2 < st ∨ (fv ≠ 0 ∧ fv ≠ 1 ∧ fv ≠ 3) then some ([], 5)
 else (doc_Labels_Plain.f g0 g1 g2).bind fun t => if t = true then (docL k B L R st fv g0 g1 g2 l []).bind fun ps => (doc_Of.f k ps).bind fun d => some (d, 0) else some ([], 3)
theorem docL_mono (B L R : List ByteArray) (st fv : Int) (g0 g1 g2 : ByteArray) (k : Nat) : ∀ (l : List SCh) (acc : List PP), LeO (docL k B L R st fv g0 g1 g2 l acc) (docL (k + 1) B L R st fv g0 g1 g2 l acc)
 | [], acc => LeO.refl _
 | c :: cs, acc => LeO.bind (build_Files_cut.mono _ _ _ _ _ _ _ _ _ _ k) (fun t => LeO.bind (LeO.refl _) (fun ps => LeO.ite (docL_mono B L R st fv g0 g1 g2 k cs _) (LeO.refl _)))
theorem doc_mono : ∀ B L R l st g0 g1 g2 fv k, LeO (docF k B L R l st g0 g1 g2 fv) (docF (k + 1) B L R l st g0 g1 g2 fv) := fun B L R l st g0 g1 g2 fv k => by
 unfold docF
 exact LeO.ite (LeO.refl _) (LeO.bind (LeO.refl _) (fun t => LeO.ite (LeO.bind (docL_mono _ _ _ _ _ _ _ _ k _ _) (fun ps => LeO.bind (doc_Of.mono _ k) (fun d => LeO.refl _))) (LeO.refl _)))
theorem stays_R {f base : Nat} {ok : Nat → Prop} {w : World} {v : Value} {xs : List ByteArray} {cs : Array Value} {T : TypeId} (h : Kd.R Kd.string 9 w base ok v xs) (hf : w.heap[f]? = some (.cells cs T (0, 0))) (hT : T ≠ 9) : ∃ A c, v = .slice A xs.length c ∧ Stays f w A c xs := by
 obtain ⟨A, c, rfl, hc, _⟩ := Kd.R_reads h
 refine ⟨A, c, rfl, hc, fun W hk => ?_⟩
 refine (Kd.R_reads' (Kd.R_move (Kd.R_bound h) (w1 := W) (fun k hk2 => ?_))).2.2
 obtain ⟨_, _, _, q, hq, cells, hcell⟩ := hk2
 have hq9 : q = 9 := by
  rcases List.mem_cons.1 hq with e | e
  ·exact e
  ·cases e
 subst hq9
 refine hk k cells _ _ hcell (by decide) (fun e => ?_)
 subst e
 rw [hcell] at hf
 injection hf with hf
 injection hf with _ hf _
 exact hT hf.symm
set_option maxHeartbeats 8000000 in
set_option maxRecDepth 100000 in
theorem doc_bad (A0 : Option Addr) (c0 : Nat) (B : List ByteArray) (A1 : Option Addr) (c1 : Nat) (L : List ByteArray) (A2 : Option Addr) (c2 : Nat) (R : List ByteArray) (A3 : Option Addr) (c3 : Nat) (l : List SCh) (st : Int) (g0 g1 g2 : ByteArray) (fv : Int) (w : World) (hbad : st < 0 ∨ 2 < st ∨ (fv ≠ 0 ∧ fv ≠ 1 ∧ fv ≠ 3)) :
  Calls Try.prog 104 #[.agg #[.slice A0 B.length c0, .slice A1 L.length c1, .slice A2 R.length c2], .slice A3 l.length c3, .int .i64 st, .agg #[.string g0, .string g1, .string g2], .int .i64 fv] w fun e w' => ∃ v0_ : Value, e = .returned (.tuple #[v0_, .int .i64 5]) ∧ Kd.R k106 106 w' w.heap.size (fun _ => True) v0_ [] ∧ Below w.heap.size w w' := by
 by_cases h1 : st < 0
 ·have q1 : decide (st < 0) = true := decide_eq_true h1
  clear hbad
  go_enter Try.func104, Try.ntmps104
  go_wp2
  go_ret2
  exact ⟨_, rfl, Kd.R_nil _ _ _ _ _, below_alloc (below_alloc (Below.refl _ _) _) _⟩
 have q1 : decide (st < 0) = false := decide_eq_false h1
 by_cases h2 : 2 < st
 ·have q2 : decide (2 < st) = true := decide_eq_true h2
  clear hbad h1
  go_enter Try.func104, Try.ntmps104
  go_wp2
  go_ret2
  exact ⟨_, rfl, Kd.R_nil _ _ _ _ _, below_alloc (below_alloc (Below.refl _ _) _) _⟩
 have q2 : decide (2 < st) = false := decide_eq_false h2
 obtain ⟨f0, f1, f3⟩ : fv ≠ 0 ∧ fv ≠ 1 ∧ fv ≠ 3 := by
  rcases hbad with h | h | h
  ·exact absurd h h1
  ·exact absurd h h2
  ·exact h
 have q3 : (fv != (0 : Int)) = true := bne_iff_ne.2 f0
 have q4 : (fv != (1 : Int)) = true := bne_iff_ne.2 f1
 have q5 : (fv != (3 : Int)) = true := bne_iff_ne.2 f3
 clear hbad h1 h2 f0 f1 f3
 go_enter Try.func104, Try.ntmps104
 go_wp2
 go_ret2
 exact ⟨_, rfl, Kd.R_nil _ _ _ _ _, below_alloc (below_alloc (Below.refl _ _) _) _⟩
set_option maxHeartbeats 8000000 in
set_option maxRecDepth 100000 in
theorem doc_label (A0 : Option Addr) (c0 : Nat) (B : List ByteArray) (A1 : Option Addr) (c1 : Nat) (L : List ByteArray) (A2 : Option Addr) (c2 : Nat) (R : List ByteArray) (A3 : Option Addr) (c3 : Nat) (l : List SCh) (st : Int) (g0 g1 g2 : ByteArray) (fv : Int) (w : World) (h1 : ¬ st < 0) (h2 : ¬ 2 < st) (h3 : fv = 0 ∨ fv = 1 ∨ fv = 3) (hp : doc_Labels_Plain.f g0 g1 g2 = some false) :
  Calls Try.prog 104 #[.agg #[.slice A0 B.length c0, .slice A1 L.length c1, .slice A2 R.length c2], .slice A3 l.length c3, .int .i64 st, .agg #[.string g0, .string g1, .string g2], .int .i64 fv] w fun e w' => ∃ v0_ : Value, e = .returned (.tuple #[v0_, .int .i64 3]) ∧ Kd.R k106 106 w' w.heap.size (fun _ => True) v0_ [] ∧ Below w.heap.size w w' := by
 have q1 : decide (st < 0) = false := decide_eq_false h1
 have q2 : decide (2 < st) = false := decide_eq_false h2
 have HP := Aside0.mk (fun W => doc_Labels_Plain.calls g0 g1 g2 false W hp)
 clear h1 h2 hp
 rcases h3 with rfl | rfl | rfl
 all_goals
  go_enter Try.func104, Try.ntmps104
  go_wp2_with (first | (go_at_call 114; (with_reducible refine (HP.out _).mono ?_); rintro e w1 ⟨rfl, hb⟩; have HB := Aside0.mk hb; clear hb))
  go_ret2
  exact ⟨_, rfl, Kd.R_nil _ _ _ _ _, below_step (below_alloc (below_alloc (Below.refl _ _) _) _) HB.out⟩
set_option maxHeartbeats 16000000 in
set_option maxRecDepth 100000 in
theorem doc_good (k : Nat) (A0 : Option Addr) (c0 : Nat) (B : List ByteArray) (A1 : Option Addr) (c1 : Nat) (L : List ByteArray) (A2 : Option Addr) (c2 : Nat) (R : List ByteArray) (A3 : Option Addr) (c3 : Nat) (l : List SCh) (st : Int) (g0 g1 g2 : ByteArray) (fv : Int) (w : World) (h1 : ¬ st < 0) (h2 : ¬ 2 < st) (h3 : fv = 0 ∨ fv = 1 ∨ fv = 3) (hp : doc_Labels_Plain.f g0 g1 g2 = some true)
  (hA : Kd.C Kd.string w A0 B.length B) (hB : Kd.C Kd.string w A1 L.length L) (hC : Kd.C Kd.string w A2 R.length R) (hD : Kd.C k91 w A3 l.length l) (hc0 : B.length ≤ c0) (hc1 : L.length ≤ c1) (hc2 : R.length ≤ c2) (hc3 : l.length ≤ c3) (ps r : List PP) (hl : docL k B L R st fv g0 g1 g2 l [] = some ps) (ho : doc_Of.f k ps = some r) :
  Calls Try.prog 104 #[.agg #[.slice A0 B.length c0, .slice A1 L.length c1, .slice A2 R.length c2], .slice A3 l.length c3, .int .i64 st, .agg #[.string g0, .string g1, .string g2], .int .i64 fv] w fun e w' => ∃ v0_ : Value, e = .returned (.tuple #[v0_, .int .i64 0]) ∧ Kd.R k106 106 w' w.heap.size (fun _ => True) v0_ r ∧ Below w.heap.size w w' := by
 have q1 : decide (st < 0) = false := decide_eq_false h1
 have q2 : decide (2 < st) = false := decide_eq_false h2
 have HP := Aside0.mk (fun W => doc_Labels_Plain.calls g0 g1 g2 true W hp)
 have hl4 : l.length ≤ 9223372036854775807 := hD.2.1
 have HL := Aside0.mk hl
 have HA := Aside0.mk hA
 have HB := Aside0.mk hB
 have HC := Aside0.mk hC
 have HD := Aside0.mk hD
 have HO := Aside0.mk ho
 have HC0 := Aside0.mk hc0
 have HC1 := Aside0.mk hc1
 have HC2 := Aside0.mk hc2
 clear h1 h2 hp hl hA hB hC hD ho hc0 hc1 hc2 hc3
 have hq : ((fv != (0 : Int)) = false) ∨ ((fv != (0 : Int)) = true ∧ (fv != (1 : Int)) = false) ∨ ((fv != (0 : Int)) = true ∧ (fv != (1 : Int)) = true ∧ (fv != (3 : Int)) = false) := by
  rcases h3 with rfl | rfl | rfl
  ·exact .inl rfl
  ·exact .inr (.inl ⟨rfl, rfl⟩)
  ·exact .inr (.inr ⟨rfl, rfl, rfl⟩)
 clear h3
 rcases hq with q3 | ⟨q3, q4⟩ | ⟨q3, q4, q5⟩
 all_goals
  go_enter Try.func104, Try.ntmps104
  go_wp2_with (first | (go_at_call 114; (with_reducible refine (HP.out _).mono ?_); rintro e w1 ⟨rfl, hb⟩; obtain ⟨hb1, hx5, hx8⟩ := two_boxes hb; have HB1 := Aside0.mk hb1; have HX5 := Aside0.mk hx5; have d0 := (blk_cell hx8 0).trans (rfl : _ = some (Value.string g0)); have d1 := (blk_cell hx8 1).trans (rfl : _ = some (Value.string g1)); have d2 := (blk_cell hx8 2).trans (rfl : _ = some (Value.string g2)); clear hb hb1 hx5 hx8))
  clear d0 d1 d2 q1 q2 HP
  have hw01 : w.heap.size < w1.heap.size := (Array.getElem?_eq_some_iff.1 HX5.out).1
  have hnew := World.alloc_heap_new w1 (.cells #[.string g0, .string g1, .string g2, .int .i64 st, .int .i64 fv, .slice none 0 0] 176)
  have HBL : Aside0 (Bld w.heap.size w1.heap.size w1.heap.size g0 g1 g2 st fv [] (w1.alloc (.cells #[.string g0, .string g1, .string g2, .int .i64 st, .int .i64 fv, .slice none 0 0] 176))) := ⟨⟨_, Nat.le_of_lt hw01, hnew, Kd.R_nil _ _ _ _ _⟩⟩
  have HW1 : Aside0 (Below w.heap.size w (w1.alloc (.cells #[.string g0, .string g1, .string g2, .int .i64 st, .int .i64 fv, .slice none 0 0] 176))) := ⟨below_step HB1.out (below_alloc (Below.refl _ _) _)⟩
  have HFL : Aside0 ((w1.alloc (.cells #[.string g0, .string g1, .string g2, .int .i64 st, .int .i64 fv, .slice none 0 0] 176)).heap[w.heap.size]? = some (.cells #[.slice A0 B.length c0, .slice A1 L.length c1, .slice A2 R.length c2] 144 (0, 0))) := ⟨((below_alloc (Below.refl w1.heap.size w1) _).block _ hw01).trans HX5.out⟩
  have HNE : Aside0 (w.heap.size ≠ w1.heap.size) := ⟨by omega⟩
  clear hnew HB1 HX5 hw01
  generalize (w1.alloc (.cells #[.string g0, .string g1, .string g2, .int .i64 st, .int .i64 fv, .slice none 0 0] 176)) = W3 at *
  obtain ⟨f, hf⟩ : ∃ f, f = w1.heap.size := ⟨_, rfl⟩
  rw [← hf] at HBL HNE ⊢
  clear hf
  go_loopg [45] l.length (fun gg s45 wr => ∃ (i : Nat) (acc : List PP), i ≤ l.length ∧ l.length - i ≤ gg ∧ s45 = .int .i64 i ∧ Aside0 (docL k B L R st fv g0 g1 g2 (l.drop i) acc = some ps) ∧ Aside0 (Bld w.heap.size f f g0 g1 g2 st fv acc wr) ∧ Aside0 (wr.heap[w.heap.size]? = some (.cells #[.slice A0 B.length c0, .slice A1 L.length c1, .slice A2 R.length c2] 144 (0, 0))) ∧ Aside0 (Below w.heap.size w wr))
  case atStart => exact ⟨0, [], Nat.zero_le _, by omega, rfl, ⟨by rw [List.drop_zero]; exact HL.out⟩, HBL, HFL, HW1⟩
  case round =>
   clear HL HBL HFL HW1
   obtain ⟨i, acc, hi, hg, rfl, HL, HF, HX, HW⟩ := hrel
   by_cases hlt : i < l.length
   ·have hltz : (i : Int) < (l.length : Int) := by omega
    have hq := HL.out
    rw [List.drop_eq_getElem_cons hlt, docL] at hq
    obtain ⟨t, ht, hq1⟩ := Option.bind_eq_some_iff.1 hq
    obtain ⟨qs, hqs, hq2⟩ := Option.bind_eq_some_iff.1 hq1
    clear hq hq1
    split at hq2
    case isFalse => cases hq2
    case isTrue hacc =>
    obtain ⟨t1, t2, t3, t4, t5, t6, t7, t8, t9, t10, t11⟩ := t
    simp only at hqs
    obtain ⟨ad, rfl, hx0, hx1, hx2, hx3, hx4, hx5, hx6⟩ := at_T91 (Kd.C_below HD.out HW.out) (i : Int) (by omega) hltz
    have hrd : rd_T91 l (i : Int) = l[i] := by unfold rd_T91; rw [Int.toNat_natCast, List.getD_eq_getElem?_getD, List.getElem?_eq_getElem hlt]; rfl
    rw [Int.toNat_natCast] at hx0 hx1 hx2 hx3 hx4 hx5 hx6
    rw [hrd] at hx0 hx1 hx2 hx3 hx4 hx5 hx6
    generalize l[i] = ch at hx0 hx1 hx2 hx3 hx4 hx5 hx6 ht
    obtain ⟨k0, ⟨k1, k2⟩, ⟨k3, k4⟩, ⟨k5, k6⟩⟩ := ch
    simp only at hx0 hx1 hx2 hx3 hx4 hx5 hx6 ht
    have HQ := Aside0.mk hq2
    have HCut := Aside0.mk (fun W (hb : Below w.heap.size w W) => build_Files_cut.calls k A0 c0 B A1 c1 L A2 c2 R k0 k1 k2 k3 k4 k5 k6 t1 t2 t3 t4 t5 t6 t7 t8 t9 t10 t11 W (Kd.C_below HA.out hb) HC0.out (Kd.C_below HB.out hb) HC1.out (Kd.C_below HC.out hb) HC2.out ht)
    have HPS := Aside0.mk hqs
    have HACC := Aside0.mk hacc
    have y0 := (blk_cell HX.out 0).trans (rfl : _ = some (Value.slice A0 B.length c0))
    have y1 := (blk_cell HX.out 1).trans (rfl : _ = some (Value.slice A1 L.length c1))
    have y2 := (blk_cell HX.out 2).trans (rfl : _ = some (Value.slice A2 R.length c2))
    have z0 : ∀ o, (wr.alloc o).cell? ⟨w.heap.size, 0, none⟩ = some (Value.slice A0 B.length c0) := fun o => tr1 o y0
    have z1 : ∀ o, (wr.alloc o).cell? ⟨w.heap.size, 1, none⟩ = some (Value.slice A1 L.length c1) := fun o => tr1 o y1
    have z2 : ∀ o, (wr.alloc o).cell? ⟨w.heap.size, 2, none⟩ = some (Value.slice A2 R.length c2) := fun o => tr1 o y2
    clear hq2 hqs hacc ht hrd HL y0 y1 y2
    go_wp2_with (first
     | (go_at_call 137; (with_reducible refine (HCut.out _ (below_alloc HW.out _)).mono ?_); rintro e w2 ⟨v7, v8, v9, rfl, r7, r8, r9, hb2⟩; have hbw := below_step (below_alloc (Below.refl wr.heap.size wr) _) hb2; have hF2 := HF.out.below hbw; obtain ⟨_, _, hfc, _⟩ := id hF2; obtain ⟨A7, n7, rfl, S7⟩ := stays_R r7 hfc (by decide); obtain ⟨A8, n8, rfl, S8⟩ := stays_R r8 hfc (by decide); obtain ⟨A9, n9, rfl, S9⟩ := stays_R r9 hfc (by decide); have HF2 := Aside0.mk hF2; have HS7 := Aside0.mk S7; have HS8 := Aside0.mk S8; have HS9 := Aside0.mk S9; have HX2 := Aside0.mk (after_call hbw HX.out); have HW2 := Aside0.mk (below_step HW.out hbw); clear r7 r8 r9 hb2 hbw hF2 hfc S7 S8 S9)
     | (go_at_call 136; (with_reducible refine (piece_calls t1 t2 t3 t4 t5 t6 t7 t11 A7 A8 A9 n7 n8 n9 t8 t9 t10 HF2.out HS7.out HS8.out HS9.out HACC.out HPS.out HW2.out.size).mono ?_); rintro e w3 ⟨rfl, r1, r2, r3⟩; have HF3 := Aside0.mk r1; have HW3 := Aside0.mk (Below.trans HW2.out r2); have HX3 := Aside0.mk (r3.cell HX2.out (by decide) HNE.out); clear r1 r2 r3))
    go_roundg (l.length - (i + 1))
    case measure => omega
    case rel => exact ⟨i + 1, acc ++ qs, by omega, Nat.le_refl _, by go_num, HQ, HF3, HX3, HW3⟩
   ·have hq := HL.out
    rw [List.drop_of_length_le (by omega), docL] at hq
    obtain rfl := Option.some.inj hq
    obtain rfl : i = l.length := by omega
    obtain ⟨v, h0, h1, hR⟩ := HF.out
    obtain ⟨Av, cv, rfl, hcv, hCv⟩ := Kd.R_reads hR
    have c5 := (blk_cell h1 5).trans (rfl : _ = some (Value.slice Av acc.length cv))
    have HCV := Aside0.mk hCv
    clear hq hR h0 h1 hCv
    go_wp2_with (first | (go_at_call 24; (with_reducible refine (doc_Of.calls k Av cv acc r _ HCV.out hcv HO.out).mono ?_); rintro e w3 ⟨v0, rfl, r1, r2⟩; have R1 := Aside0.mk r1; have R2 := Aside0.mk r2; clear r1 r2))
    go_ret2
    exact ⟨_, rfl, Kd.R_lower R1.out HW.out.size, below_step HW.out R2.out⟩
theorem doc_calls (k : Nat) (A0 : Option Addr) (c0 : Nat) (B : List ByteArray) (A1 : Option Addr) (c1 : Nat) (L : List ByteArray) (A2 : Option Addr) (c2 : Nat) (R : List ByteArray) (A3 : Option Addr) (c3 : Nat) (l : List SCh) (st : Int) (g0 g1 g2 : ByteArray) (fv : Int) (r1 : List PP) (r2 : Int) (w : World)
  (hA : Kd.C Kd.string w A0 B.length B) (hc0 : B.length ≤ c0) (hB : Kd.C Kd.string w A1 L.length L) (hc1 : L.length ≤ c1) (hC : Kd.C Kd.string w A2 R.length R) (hc2 : R.length ≤ c2) (hD : Kd.C k91 w A3 l.length l) (hc3 : l.length ≤ c3) (h : docF k B L R l st g0 g1 g2 fv = some (r1, r2)) :
  Calls Try.prog 104 #[.agg #[.slice A0 B.length c0, .slice A1 L.length c1, .slice A2 R.length c2], .slice A3 l.length c3, .int .i64 st, .agg #[.string g0, .string g1, .string g2], .int .i64 fv] w fun e w' => ∃ v0_ : Value, e = .returned (.tuple #[v0_, .int .i64 r2]) ∧ Kd.R k106 106 w' w.heap.size (fun _ => True) v0_ r1 ∧ Below w.heap.size w w' := by
 unfold docF at h
 split at h
 ·rename_i hbad
  simp only [Option.some.injEq, Prod.mk.injEq] at h
  obtain ⟨rfl, rfl⟩ := h
  exact doc_bad A0 c0 B A1 c1 L A2 c2 R A3 c3 l st g0 g1 g2 fv w hbad
 ·rename_i hbad
  obtain ⟨t, ht, h⟩ := Option.bind_eq_some_iff.1 h
  have h1 : ¬ st < 0 := fun e => hbad (.inl e)
  have h2 : ¬ 2 < st := fun e => hbad (.inr (.inl e))
  have h3 : fv = 0 ∨ fv = 1 ∨ fv = 3 := by omega
  cases t with
  | true =>
   rw [if_pos rfl] at h
   obtain ⟨ps, hps, h⟩ := Option.bind_eq_some_iff.1 h
   obtain ⟨d, hd, h⟩ := Option.bind_eq_some_iff.1 h
   simp only [Option.some.injEq, Prod.mk.injEq] at h
   obtain ⟨rfl, rfl⟩ := h
   exact doc_good k A0 c0 B A1 c1 L A2 c2 R A3 c3 l st g0 g1 g2 fv w h1 h2 h3 ht hA hB hC hD hc0 hc1 hc2 hc3 ps d hps hd
  | false =>
   rw [if_neg (by simp)] at h
   simp only [Option.some.injEq, Prod.mk.injEq] at h
   obtain ⟨rfl, rfl⟩ := h
   exact doc_label A0 c0 B A1 c1 L A2 c2 R A3 c3 l st g0 g1 g2 fv w h1 h2 h3 ht
end Go.Proofs.Ytfiamddinkokbaa.F
end

section
set_option linter.unusedVariables false
set_option linter.unusedSimpArgs false
namespace Go.Proofs.Ytfiamddinkokbaa.F
open Go.RowKit Go.Shelf Go.Proofs.YtfiamddinkokbaaW.PrintWords
set_option linter.unusedVariables false
set_option linter.unusedSimpArgs false
def countL (k : Nat) (B L R : List ByteArray) : List SCh → Int → Option Int
 | [], n => some n
 | c :: cs, n => (build_Files_cut.f k B L R c.f0 c.f1.f0 c.f1.f1 c.f2.f0 c.f2.f1 c.f3.f0 c.f3.f1).bind fun t => countL k B L R cs (if t.2.2.2.2.2.2.2.2.2.2 = 4 then n + 1 else n)
def countF (k : Nat) (B L R : List ByteArray) (l : List SCh) : Option Int := if l.length ≤ 4000000000000 then countL k B L R l 0 else none
theorem countL_mono (B L R : List ByteArray) (k : Nat) : ∀ (l : List SCh) (n : Int), LeO (countL k B L R l n) (countL (k + 1) B L R l n)
 | [], n => LeO.refl _
 | c :: cs, n => LeO.bind (build_Files_cut.mono _ _ _ _ _ _ _ _ _ _ k) (fun t => countL_mono B L R k cs _)
theorem count_mono : ∀ B L R l k, LeO (countF k B L R l) (countF (k + 1) B L R l) := fun B L R l k => LeO.ite (countL_mono B L R k l 0) (LeO.refl _)
theorem piece_field (b : Bool) (a1 a2 a3 a4 a5 a6 z : Int) (A B C : Option Addr) (n m k x y w : Nat) (W : World) : (Instr.field 179 (.agg #[.bool b, .int .i64 a1, .int .i64 a2, .int .i64 a3, .int .i64 a4, .int .i64 a5, .int .i64 a6, .slice A n x, .slice B m y, .slice C k w, .int .i64 z]) 4).run Try.prog W = .ok (.int .i64 z) W := by
 have hu := Try.underlying179
 unfold Instr.field
 go_simp
 rfl
attribute [local go_sem] piece_field
set_option maxHeartbeats 8000000 in
set_option maxRecDepth 100000 in
theorem count_calls (k : Nat) (A0 : Option Addr) (c0 : Nat) (B : List ByteArray) (A1 : Option Addr) (c1 : Nat) (L : List ByteArray) (A2 : Option Addr) (c2 : Nat) (R : List ByteArray) (A3 : Option Addr) (c3 : Nat) (l : List SCh) (r : Int) (w : World)
  (hA : Kd.C Kd.string w A0 B.length B) (hc0 : B.length ≤ c0) (hB : Kd.C Kd.string w A1 L.length L) (hc1 : L.length ≤ c1) (hC : Kd.C Kd.string w A2 R.length R) (hc2 : R.length ≤ c2) (hD : Kd.C k91 w A3 l.length l) (hc3 : l.length ≤ c3) (h : countF k B L R l = some r) :
  Calls Try.prog 105 #[.agg #[.slice A0 B.length c0, .slice A1 L.length c1, .slice A2 R.length c2], .slice A3 l.length c3] w fun e w' => e = .returned (.int .i64 r) ∧ Below w.heap.size w w' := by
 unfold countF at h
 split at h
 case isFalse => cases h
 case isTrue hl4 =>
 have HL := Aside0.mk h
 have HA := Aside0.mk hA
 have HB := Aside0.mk hB
 have HC := Aside0.mk hC
 have HD := Aside0.mk hD
 have HC0 := Aside0.mk hc0
 have HC1 := Aside0.mk hc1
 have HC2 := Aside0.mk hc2
 clear h hA hB hC hD hc0 hc1 hc2 hc3
 go_enter Try.func105, Try.ntmps105
 go_wp2
 have HW1 := Aside0.mk (below_alloc (Below.refl w.heap.size w) (.cells #[.slice A0 B.length c0, .slice A1 L.length c1, .slice A2 R.length c2] 144))
 have HFL := Aside0.mk (World.alloc_heap_new w (.cells #[.slice A0 B.length c0, .slice A1 L.length c1, .slice A2 R.length c2] 144))
 generalize (w.alloc (.cells #[.slice A0 B.length c0, .slice A1 L.length c1, .slice A2 R.length c2] 144)) = W3 at *
 go_loopg [5, 10] l.length (fun gg s5 s10 wr => ∃ (i : Nat) (n : Int), i ≤ l.length ∧ l.length - i ≤ gg ∧ s5 = .int .i64 n ∧ s10 = .int .i64 i ∧ 0 ≤ n ∧ n ≤ i ∧ Aside0 (countL k B L R (l.drop i) n = some r) ∧ Aside0 (wr.heap[w.heap.size]? = some (.cells #[.slice A0 B.length c0, .slice A1 L.length c1, .slice A2 R.length c2] 144 (0, 0))) ∧ Aside0 (Below w.heap.size w wr))
 case atStart => exact ⟨0, 0, Nat.zero_le _, by omega, rfl, rfl, by omega, by omega, ⟨by rw [List.drop_zero]; exact HL.out⟩, HFL, HW1⟩
 case round =>
  clear HL HFL HW1
  obtain ⟨i, n, hi, hg, rfl, rfl, hn0, hn1, HL, HX, HW⟩ := hrel
  by_cases hlt : i < l.length
  ·have hltz : (i : Int) < (l.length : Int) := by omega
   have hq := HL.out
   rw [List.drop_eq_getElem_cons hlt, countL] at hq
   obtain ⟨t, ht, hq1⟩ := Option.bind_eq_some_iff.1 hq
   clear hq
   obtain ⟨t1, t2, t3, t4, t5, t6, t7, t8, t9, t10, t11⟩ := t
   simp only at hq1
   obtain ⟨ad, rfl, hx0, hx1, hx2, hx3, hx4, hx5, hx6⟩ := at_T91 (Kd.C_below HD.out HW.out) (i : Int) (by omega) hltz
   have hrd : rd_T91 l (i : Int) = l[i] := by unfold rd_T91; rw [Int.toNat_natCast, List.getD_eq_getElem?_getD, List.getElem?_eq_getElem hlt]; rfl
   rw [Int.toNat_natCast] at hx0 hx1 hx2 hx3 hx4 hx5 hx6
   rw [hrd] at hx0 hx1 hx2 hx3 hx4 hx5 hx6
   generalize l[i] = ch at hx0 hx1 hx2 hx3 hx4 hx5 hx6 ht
   obtain ⟨k0, ⟨k1, k2⟩, ⟨k3, k4⟩, ⟨k5, k6⟩⟩ := ch
   simp only at hx0 hx1 hx2 hx3 hx4 hx5 hx6 ht
   have HCut := Aside0.mk (fun W (hb : Below w.heap.size w W) => build_Files_cut.calls k A0 c0 B A1 c1 L A2 c2 R k0 k1 k2 k3 k4 k5 k6 t1 t2 t3 t4 t5 t6 t7 t8 t9 t10 t11 W (Kd.C_below HA.out hb) HC0.out (Kd.C_below HB.out hb) HC1.out (Kd.C_below HC.out hb) HC2.out ht)
   have y0 := (blk_cell HX.out 0).trans (rfl : _ = some (Value.slice A0 B.length c0))
   have y1 := (blk_cell HX.out 1).trans (rfl : _ = some (Value.slice A1 L.length c1))
   have y2 := (blk_cell HX.out 2).trans (rfl : _ = some (Value.slice A2 R.length c2))
   have z0 : ∀ o, (wr.alloc o).cell? ⟨w.heap.size, 0, none⟩ = some (Value.slice A0 B.length c0) := fun o => tr1 o y0
   have z1 : ∀ o, (wr.alloc o).cell? ⟨w.heap.size, 1, none⟩ = some (Value.slice A1 L.length c1) := fun o => tr1 o y1
   have z2 : ∀ o, (wr.alloc o).cell? ⟨w.heap.size, 2, none⟩ = some (Value.slice A2 R.length c2) := fun o => tr1 o y2
   clear ht hrd HL y0 y1 y2
   by_cases h4 : t11 = 4
   ·have q4 : (t11 == (4 : Int)) = true := beq_iff_eq.2 h4
    rw [if_pos h4] at hq1
    have HQ := Aside0.mk hq1
    clear hq1 h4
    go_wp2_with (first | (go_at_call 137; (with_reducible refine (HCut.out _ (below_alloc HW.out _)).mono ?_); rintro e w2 ⟨v7, v8, v9, rfl, r7, r8, r9, hb2⟩; have hbw := below_step (below_alloc (Below.refl wr.heap.size wr) _) hb2; obtain ⟨A7, n7, rfl⟩ := Kd.R_slice r7; obtain ⟨A8, n8, rfl⟩ := Kd.R_slice r8; obtain ⟨A9, n9, rfl⟩ := Kd.R_slice r9; have HX2 := Aside0.mk (after_call hbw HX.out); have HW2 := Aside0.mk (below_step HW.out hbw); clear r7 r8 r9 hb2 hbw))
    go_roundg (l.length - (i + 1))
    case measure => omega
    case rel => exact ⟨i + 1, n + 1, by omega, Nat.le_refl _, rfl, by go_num, by omega, by omega, HQ, HX2, HW2⟩
   ·have q4 : (t11 == (4 : Int)) = false := beq_eq_false_iff_ne.2 h4
    rw [if_neg h4] at hq1
    have HQ := Aside0.mk hq1
    clear hq1 h4
    go_wp2_with (first | (go_at_call 137; (with_reducible refine (HCut.out _ (below_alloc HW.out _)).mono ?_); rintro e w2 ⟨v7, v8, v9, rfl, r7, r8, r9, hb2⟩; have hbw := below_step (below_alloc (Below.refl wr.heap.size wr) _) hb2; obtain ⟨A7, n7, rfl⟩ := Kd.R_slice r7; obtain ⟨A8, n8, rfl⟩ := Kd.R_slice r8; obtain ⟨A9, n9, rfl⟩ := Kd.R_slice r9; have HX2 := Aside0.mk (after_call hbw HX.out); have HW2 := Aside0.mk (below_step HW.out hbw); clear r7 r8 r9 hb2 hbw))
    go_roundg (l.length - (i + 1))
    case measure => omega
    case rel => exact ⟨i + 1, n, by omega, Nat.le_refl _, rfl, by go_num, by omega, by omega, HQ, HX2, HW2⟩
  ·have hq := HL.out
   rw [List.drop_of_length_le (by omega), countL] at hq
   obtain rfl := Option.some.inj hq
   clear hq
   go_wp2
   go_ret
   exact ⟨rfl, HW.out⟩
end Go.Proofs.Ytfiamddinkokbaa.F
end

section
set_option linter.unusedVariables false
set_option linter.unusedSimpArgs false
namespace Go.Proofs.Ytfiamddinkokbaa.F
open Go.RowKit Go.Proofs.YtfiamddinkokbaaW.PrintWords Go.Proofs.YtfiamddinkokbaaW.PrintLast Go.Proofs.YtfiamddinkokbaaW.PrintMore
attribute [local go_sem] max2_int min2_int max_two min_two max_three min_three max_four min_four
set_option linter.unusedVariables false
set_option linter.unusedSimpArgs false
def build_Count.f (k : Nat) (l0_0 l0_1 l0_2 : List ByteArray) (l1 : List S91) : Option Int := countF k l0_0 l0_1 l0_2 l1
theorem build_Count.mono : ∀ l0_0 l0_1 l0_2 l1 k, LeO (build_Count.f k l0_0 l0_1 l0_2 l1) (build_Count.f (k + 1) l0_0 l0_1 l0_2 l1) := count_mono
theorem build_Count.calls (k : Nat) (A0_0 : Option Addr) (c0_0 : Nat) (l0_0 : List ByteArray) (A0_1 : Option Addr) (c0_1 : Nat) (l0_1 : List ByteArray) (A0_2 : Option Addr) (c0_2 : Nat) (l0_2 : List ByteArray) (A1 : Option Addr) (c1 : Nat) (l1 : List (S91)) (r : Int) (w : World) (hr0_0 : Kd.C Kd.string w A0_0 l0_0.length l0_0) (hc0_0 : l0_0.length ≤ c0_0) (hr0_1 : Kd.C Kd.string w A0_1 l0_1.length l0_1) (hc0_1 : l0_1.length ≤ c0_1) (hr0_2 : Kd.C Kd.string w A0_2 l0_2.length l0_2) (hc0_2 : l0_2.length ≤ c0_2) (hr1 : Kd.C k91 w A1 l1.length l1) (hc1 : l1.length ≤ c1) (h : build_Count.f k l0_0 l0_1 l0_2 l1 = some r) :
  Calls Try.prog 105 #[.agg #[.slice A0_0 l0_0.length c0_0, .slice A0_1 l0_1.length c0_1, .slice A0_2 l0_2.length c0_2], .slice A1 l1.length c1] w fun e w' => e = .returned (.int .i64 r) ∧ Below w.heap.size w w' := by
 exact count_calls k A0_0 c0_0 l0_0 A0_1 c0_1 l0_1 A0_2 c0_2 l0_2 A1 c1 l1 r w hr0_0 hc0_0 hr0_1 hc0_1 hr0_2 hc0_2 hr1 hc1 h
end Go.Proofs.Ytfiamddinkokbaa.F
end

section
set_option linter.unusedVariables false
set_option linter.unusedSimpArgs false
namespace Go.Proofs.Ytfiamddinkokbaa.F
open Go.RowKit Go.Proofs.YtfiamddinkokbaaW.PrintWords Go.Proofs.YtfiamddinkokbaaW.PrintLast Go.Proofs.YtfiamddinkokbaaW.PrintMore
attribute [local go_sem] max2_int min2_int max_two min_two max_three min_three max_four min_four
set_option linter.unusedVariables false
set_option linter.unusedSimpArgs false
def lines_Number.f (l0 : List (List ByteArray)) : Option (List (List Int)) := if (∀ f ∈ l0, ∀ s ∈ f, s.size ≤ 4000000000) ∧ total l0 ≤ 4000000000 ∧ l0.length ≤ 4000000000 then some (numberB l0) else none
theorem lines_Number.calls (A0 : Option Addr) (c0 : Nat) (l0 : List (List ByteArray)) (r : List (List Int)) (w : World) (hr0 : Kd.C (Kd.slice 9 Kd.string) w A0 l0.length l0) (hc0 : l0.length ≤ c0) (h : lines_Number.f l0 = some r) :
  Calls Try.prog 38 #[.slice A0 l0.length c0] w fun e w' => ∃ v0_ : Value, e = .returned (v0_) ∧ Kd.S (Kd.slice 3 (Kd.int .i64)) 50 w' w.heap.size (fun _ => True) v0_ r ∧ Below w.heap.size w w' := by
 exact ext_number A0 c0 l0 r w hr0 hc0 h
end Go.Proofs.Ytfiamddinkokbaa.F
end

section
set_option linter.unusedVariables false
set_option linter.unusedSimpArgs false
namespace Go.Proofs.Ytfiamddinkokbaa.F
open Go.RowKit Go.Proofs.YtfiamddinkokbaaW.PrintWords Go.Proofs.YtfiamddinkokbaaW.PrintLast Go.Proofs.YtfiamddinkokbaaW.PrintMore
attribute [local go_sem] max2_int min2_int max_two min_two max_three min_three max_four min_four
set_option linter.unusedVariables false
set_option linter.unusedSimpArgs false
def lcs_Match.f (l0 l1 : List Int) : Option (List S196) := if l0.length ≤ 4000000000 ∧ l1.length ≤ 4000000000 then (matchF l0 l1).bind (fun r => if r.length ≤ 8000000000 then some r else none) else none
theorem lcs_Match.calls (A0 : Option Addr) (c0 : Nat) (l0 : List Int) (A1 : Option Addr) (c1 : Nat) (l1 : List Int) (r : List (S196)) (w : World) (hr0 : Kd.C (Kd.int .i64) w A0 l0.length l0) (hc0 : l0.length ≤ c0) (hr1 : Kd.C (Kd.int .i64) w A1 l1.length l1) (hc1 : l1.length ≤ c1) (h : lcs_Match.f l0 l1 = some r) :
  Calls Try.prog 132 #[.slice A0 l0.length c0, .slice A1 l1.length c1] w fun e w' => ∃ v0_ : Value, e = .returned (v0_) ∧ Kd.R k196 196 w' w.heap.size (fun _ => True) v0_ r ∧ Below w.heap.size w w' := by
 exact match_calls A0 c0 l0 A1 c1 l1 r w hr0 hc0 hr1 hc1 h
end Go.Proofs.Ytfiamddinkokbaa.F
end

section
set_option linter.unusedVariables false
set_option linter.unusedSimpArgs false
namespace Go.Proofs.Ytfiamddinkokbaa.F
open Go.RowKit Go.Proofs.YtfiamddinkokbaaW.PrintWords Go.Proofs.YtfiamddinkokbaaW.PrintLast Go.Proofs.YtfiamddinkokbaaW.PrintMore
attribute [local go_sem] max2_int min2_int max_two min_two max_three min_three max_four min_four
set_option linter.unusedVariables false
set_option linter.unusedSimpArgs false
def merge_match.f (l0 : List ByteArray) (l1 : List ByteArray) : Option ((List (S196))) := (lines_Number.f (([l0, l1] : List (List ByteArray)))).bind fun t528 => (if 0 < (t528.length : Int) then (if 1 < (t528.length : Int) then ((lcs_Match.f (rd_L7 t528 0) (rd_L7 t528 1)).bind fun t533 => (some t533)) else (none)) else (none))
def merge_match.T2 : Bool × List (List Nat × List Nat) := (true, [([], []), ([0], [0]), ([1], [1]), ([], []), ([3], [3]), ([4], [4]), ([2, 5], [2, 5]), ([6, 6, 0, 1, 2, 3, 4, 5, 6], [6])])
def merge_match.B2 : List Nat := [0, 1, 3, 0, 8, 24, 63, 127]
theorem merge_match.tab2 : rtab .any (opsOf Try.f102 2) = merge_match.T2 := by kernel_rfl
theorem merge_match.bits2 : waitsOk merge_match.T2.2 merge_match.B2 = true := by kernel_rfl
set_option maxHeartbeats 8000000 in
set_option maxRecDepth 100000 in
theorem merge_match.calls (P0_ : Nat → Prop) (A0 : Option Addr) (c0 : Nat) (l0 : List ByteArray) (P1_ : Nat → Prop) (A1 : Option Addr) (c1 : Nat) (l1 : List ByteArray) (r : List (S196)) (w : World) (hs0 : Kd.V Kd.string 9 w w.heap.size (fun k_ => P0_ k_) (.slice A0 l0.length c0) l0) (hs1 : Kd.V Kd.string 9 w w.heap.size (fun k_ => P1_ k_) (.slice A1 l1.length c1) l1) (h : merge_match.f l0 l1 = some r) :
  Calls Try.prog 102 #[.slice A0 l0.length c0, .slice A1 l1.length c1] w fun e w' => ∃ v0_ : Value, e = .returned (v0_) ∧ Kd.R k196 196 w' w.heap.size (fun k_ => (w.heap.size ≤ k_)) v0_ r ∧ Below w.heap.size w w' := by
 have HO0 := Aside0.mk (show Kd.V Kd.string 9 w w.heap.size (fun k_ => ((P0_ k_ ∨ P1_ k_) ∨ w.heap.size ≤ k_)) (.slice A0 l0.length c0) l0 from Kd.V_mono hs0 (fun k_ hk => .inl (.inl hk)))
 have HO1 := Aside0.mk (show Kd.V Kd.string 9 w w.heap.size (fun k_ => ((P0_ k_ ∨ P1_ k_) ∨ w.heap.size ≤ k_)) (.slice A1 l1.length c1) l1 from Kd.V_mono hs1 (fun k_ hk => .inl (.inr hk)))
 have HB := Aside0.mk (Below.refl w.heap.size w)
 have H : ((lines_Number.f (([l0, l1] : List (List ByteArray)))).bind fun t528 => (if 0 < (t528.length : Int) then (if 1 < (t528.length : Int) then ((lcs_Match.f (rd_L7 t528 0) (rd_L7 t528 1)).bind fun t533 => (some t533)) else (none)) else (none))) = some r := h
 clear h
 obtain ⟨y525, hy525⟩ : ∃ y_ : List (List ByteArray), y_ = (([l0, l1] : List (List ByteArray))) := ⟨_, rfl⟩
 replace H : ((lines_Number.f y525).bind fun t528 => (if 0 < (t528.length : Int) then (if 1 < (t528.length : Int) then ((lcs_Match.f (rd_L7 t528 0) (rd_L7 t528 1)).bind fun t533 => (some t533)) else (none)) else (none))) = some r := by first | (rw [hy525]; with_reducible exact H) | (have H2_ := (Option.bind_some _ _).symm.trans H; rw [hy525]; with_reducible exact H2_) | (have H2_ := (Option.bind_some _ _).symm.trans H; with_reducible exact H2_) | with_reducible exact H | (rw [hy525]; exact H) | exact H
 have Ny525 := Aside0.mk hy525
 clear hy525
 replace H := Option.bind_eq_some_iff.mp H
 obtain ⟨t528, A30, H⟩ := H
 replace H : (if 0 < (t528.length : Int) then (if 1 < (t528.length : Int) then ((lcs_Match.f (rd_L7 t528 0) (rd_L7 t528 1)).bind fun t533 => (some t533)) else (none)) else (none)) = some r := H
 have A3 := Aside0.mk A30
 clear A30
 by_cases c4 : 0 < (t528.length : Int)
 ·rw [if_pos c4] at H
  have c4b0 : decide (0 < (t528.length : Int)) = true := decide_eq_true c4
  have c4b1 : decide (0 < t528.length) = true := decide_eq_true (by omega)
  clear c4
  by_cases c5 : 1 < (t528.length : Int)
  ·rw [if_pos c5] at H
   have c5b0 : decide (1 < (t528.length : Int)) = true := decide_eq_true c5
   have c5b1 : decide (1 < t528.length) = true := decide_eq_true (by omega)
   clear c5
   replace H := Option.bind_eq_some_iff.mp H
   obtain ⟨t533, A60, H⟩ := H
   replace H : (some t533) = some r := H
   have A6 := Aside0.mk A60
   clear A60
   obtain rfl := Option.some.inj H
   go_enter Try.func102, Try.ntmps102
   try go_wp2_with (first | ((with_reducible refine gate_dst (N := 8) rfl ?_); refine Kd.N_lit (Kd.slice 9 Kd.string) _ 36 ?hg (N' := 8) ?hd (xs := ([l0, l1] : List (List ByteArray))) (inner := [.slice A0 l0.length c0, .slice A1 l1.length c1]) (ok := (fun k_ => ((P0_ k_ ∨ P1_ k_) ∨ w.heap.size ≤ k_))) (okp := (fun k_ => ((P0_ k_ ∨ P1_ k_) ∨ w.heap.size ≤ k_))) ?hr ?hp (fun _ hk => hk) ((show ∀ k_, w.heap.size ≤ k_ → (fun k_ => ((P0_ k_ ∨ P1_ k_) ∨ w.heap.size ≤ k_)) k_ from fun k_ hk => (.inr (Nat.le_trans (below_size (by repeat (first | (with_reducible first | exact HB.out | apply below_alloc | apply pw_below_drewN | apply below_drew1) | exact HB.out))) hk))) _ (Nat.le_refl _)) (Below.refl _ _) (Nat.le_refl _) (by simp) ?_; (case hd => rfl); (case hg => rfl); (case hr => first | (go_simp; done) | (go_simp; rfl)); (case hp => exact (Reps.one (show Kd.FK (Kd.slice 9 Kd.string) _ _ l0 [.slice A0 l0.length c0] from (Kd.FK_slice_mk (Kd.V_reads' (Kd.V_mono (ok' := (fun k_ => ((P0_ k_ ∨ P1_ k_) ∨ w.heap.size ≤ k_))) (HO0.out) (fun k_ hk => hk))).2.1 (Kd.V_F (Kd.V_mono (ok' := (fun k_ => ((P0_ k_ ∨ P1_ k_) ∨ w.heap.size ≤ k_))) (HO0.out) (fun k_ hk => hk))))) (Reps.one (show Kd.FK (Kd.slice 9 Kd.string) _ _ l1 [.slice A1 l1.length c1] from (Kd.FK_slice_mk (Kd.V_reads' (Kd.V_mono (ok' := (fun k_ => ((P0_ k_ ∨ P1_ k_) ∨ w.heap.size ≤ k_))) (HO1.out) (fun k_ hk => hk))).2.1 (Kd.V_F (Kd.V_mono (ok' := (fun k_ => ((P0_ k_ ∨ P1_ k_) ∨ w.heap.size ≤ k_))) (HO1.out) (fun k_ hk => hk))))) (Reps.none _ _)))); intro v526 w7 ho8 hb hg_ hnew_; clear hg_ hnew_; (first | rw [← Ny525.out] at ho8 | (simp only [Int.reduceToNat] at ho8; rw [← Ny525.out] at ho8)); have n0_ := Aside0.mk (Kd.V_elder' (by (with_reducible repeat (first | apply Kd.V_alloc | apply Kd.V_drewN | apply Kd.V_drew)); exact HO0.out) (Kd.N_base ho8) hb); have n1_ := Aside0.mk (Kd.V_elder' (by (with_reducible repeat (first | apply Kd.V_alloc | apply Kd.V_drewN | apply Kd.V_drew)); exact HO1.out) (Kd.N_base ho8) hb); have n2_ := Aside0.mk (Kd.N_lower ho8 (below_size (by repeat (first | (with_reducible first | exact HB.out | apply below_alloc | apply pw_below_drewN | apply below_drew1) | exact HB.out)))); have n3_ := Aside0.mk (below_step (by repeat (first | (with_reducible first | exact HB.out | apply below_alloc | apply pw_below_drewN | apply below_drew1) | exact HB.out)) hb); clear HO0; clear HO1; clear HB; have HO0 := n0_; have HO1 := n1_; have HO527 := n2_; have HB := n3_; clear n0_ n1_ n2_ n3_; clear hb ho8; obtain ⟨Ao9, co9, eo9⟩ := Kd.N_slice HO527.out; subst eo9) | ((with_reducible refine gate_callee (f := 38) rfl ?_); refine goesL_ (some 9) rfl rfl Try.func38 (by kernel_rfl) rfl #[.slice Ao9 y525.length co9] rfl (by (try simp only [List.map_toArray, List.map_cons, List.map_nil]); first | done | rfl | (simp only [List.length_drop, List.length_take]; rfl)) ?_; (with_reducible refine (lines_Number.calls _ _ y525 t528 _ ?side1 ?side2 A3.out).mono ?_); (case side1 => repeat (first | exact (Kd.N_reads' HO527.out).2.2 | (with_reducible refine Kd.C_alloc ?_ _) | (with_reducible refine Kd.C_drewN ?_ _) | (with_reducible refine Kd.C_drew ?_))); (case side2 => exact (Kd.N_reads' HO527.out).2.1); rintro e w10 ⟨v529, rfl, ho0, hb⟩; refine ⟨_, rfl, ?_⟩; have n0_ := Aside0.mk (Kd.V_elder' (by (with_reducible repeat (first | apply Kd.V_alloc | apply Kd.V_drewN | apply Kd.V_drew)); exact HO0.out) (Kd.S_base ho0) hb); have n1_ := Aside0.mk (Kd.V_elder' (by (with_reducible repeat (first | apply Kd.V_alloc | apply Kd.V_drewN | apply Kd.V_drew)); exact HO1.out) (Kd.S_base ho0) hb); have n2_ := Aside0.mk (Kd.N_elder' (by (with_reducible repeat (first | apply Kd.N_alloc | apply Kd.N_drewN | apply Kd.N_drew)); exact HO527.out) (Kd.S_base ho0) hb); have n3_ := Aside0.mk (Kd.N_lower (Kd.N_mono (ok' := fun k_ => ((P0_ k_ ∨ P1_ k_) ∨ w.heap.size ≤ k_) ∧ some k_ ≠ (.slice Ao9 y525.length co9 : Value).ownBlock) (Kd.S_N (Kd.S_bound ho0)) (fun k_ hk_ => ⟨(.inr (Nat.le_trans (below_size (by repeat (first | (with_reducible first | exact HB.out | apply below_alloc | apply pw_below_drewN | apply below_drew1) | exact HB.out))) hk_.2.1)), (Kd.fresh' (Kd.N_lt (by (with_reducible repeat (first | apply Kd.N_alloc | apply Kd.N_drewN | apply Kd.N_drew)); exact HO527.out)) k_ hk_.2.1)⟩)) (below_size (by repeat (first | (with_reducible first | exact HB.out | apply below_alloc | apply pw_below_drewN | apply below_drew1) | exact HB.out)))); have n4_ := Aside0.mk (below_step (by repeat (first | (with_reducible first | exact HB.out | apply below_alloc | apply pw_below_drewN | apply below_drew1) | exact HB.out)) hb); clear HO0; clear HO1; clear HO527; clear HB; have HO0 := n0_; have HO1 := n1_; have HO527 := n2_; have HO530 := n3_; have HB := n4_; clear n0_ n1_ n2_ n3_ n4_; (try clear hb); (try clear hb2); (try clear hk); (try clear hi); (try clear ho0)))
   have n0_ := Aside0.mk (Kd.V_drew HO0.out)
   have n1_ := Aside0.mk (Kd.V_drew HO1.out)
   have n2_ := Aside0.mk (Kd.N_drew HO527.out)
   have n3_ := Aside0.mk (Kd.N_drew HO530.out)
   have n4_ := Aside0.mk (below_drew1 HB.out)
   clear HO0
   clear HO1
   clear HO527
   clear HO530
   clear HB
   have HO0 := n0_
   have HO1 := n1_
   have HO527 := n2_
   have HO530 := n3_
   have HB := n4_
   clear n0_ n1_ n2_ n3_ n4_
   obtain ⟨Ao12, co12, eo12⟩ := Kd.N_slice HO530.out
   (first | subst eo12 | (injection eo12 with f1_ f2_ f3_; have f4_ := f1_.symm; have f5_ := f3_.symm; clear f1_ f2_ f3_; subst f4_; subst f5_))
   have p531 : 0 ≤ (0 : Int) := (by omega)
   have q531 : 0 < (t528.length : Int) := of_decide_eq_true (by first | (with_reducible assumption) | assumption)
   obtain ⟨ad531, A531_0, c531_0, e531, hx531_0, hl531_0, hi531_0⟩ := at_L7 (Kd.N_reads' HO530.out).2.2 0 p531 q531
   cases e531
   obtain ⟨ce531, hce531, hMe531, hcc531⟩ := Kd.N_get HO530.out [] 0 p531 (by first | exact q531 | exact of_decide_eq_true (by first | (with_reducible assumption) | assumption) | (have e_ := (Kd.N_reads' HO530.out).1; omega))
   obtain ⟨ua531_0, uc531_0, rfl, ul531_0, ge531_0⟩ := Kd.FK_slice_open hMe531
   have hv531_0 := hcc531 0 _ rfl
   rw [Nat.add_zero, show ((Kd.slice 3 (Kd.int .i64))).sz = 1 from rfl, Nat.mul_one] at hv531_0
   replace hv531_0 := Option.some.inj (hv531_0.symm.trans hx531_0)
   injection hv531_0 with hva_ hvn_ hvc_
   rw [hva_] at ge531_0
   rw [hvc_] at ul531_0
   have HL531_0 := Aside0.mk (show Kd.V (Kd.int .i64) 3 _ w.heap.size _ _ (rd_L7 t528 0) from Kd.V_mk ul531_0 ge531_0)
   clear hva_ hvn_ hvc_ ge531_0 ul531_0
   clear hcc531 hce531
   have qi531 : (0 < t528.length) = True := eq_true (by omega)
   (try rw [show ((0 : Int)).toNat = 0 from rfl] at hx531_0)
   (try rw [Addr.add_zero'] at hx531_0)
   have HR531_0 := Aside0.mk hi531_0
   have HC531_0 := Aside0.mk hl531_0
   clear hi531_0 hl531_0
   replace p531 := eq_true p531
   replace q531 := eq_true q531
   have p532 : 0 ≤ (1 : Int) := (by omega)
   have q532 : 1 < (t528.length : Int) := of_decide_eq_true (by first | (with_reducible assumption) | assumption)
   obtain ⟨ad532, A532_0, c532_0, e532, hx532_0, hl532_0, hi532_0⟩ := at_L7 (Kd.N_reads' HO530.out).2.2 1 p532 q532
   obtain rfl : ad531 = ad532 := (by injection e532)
   obtain ⟨ce532, hce532, hMe532, hcc532⟩ := Kd.N_get HO530.out [] 1 p532 (by first | exact q532 | exact of_decide_eq_true (by first | (with_reducible assumption) | assumption) | (have e_ := (Kd.N_reads' HO530.out).1; omega))
   obtain ⟨ua532_0, uc532_0, rfl, ul532_0, ge532_0⟩ := Kd.FK_slice_open hMe532
   have hv532_0 := hcc532 0 _ rfl
   rw [Nat.add_zero, show ((Kd.slice 3 (Kd.int .i64))).sz = 1 from rfl, Nat.mul_one] at hv532_0
   replace hv532_0 := Option.some.inj (hv532_0.symm.trans hx532_0)
   injection hv532_0 with hva_ hvn_ hvc_
   rw [hva_] at ge532_0
   rw [hvc_] at ul532_0
   have HL532_0 := Aside0.mk (show Kd.V (Kd.int .i64) 3 _ w.heap.size _ _ (rd_L7 t528 1) from Kd.V_mk ul532_0 ge532_0)
   clear hva_ hvn_ hvc_ ge532_0 ul532_0
   clear hcc532 hce532
   (try simp only [show (1 : Int).toNat = 1 from rfl, Nat.reduceMul, Nat.reduceEqDiff, Go.Addr.add, ↓reduceIte] at hx532_0)
   have qi532 : (1 < t528.length) = True := eq_true (by omega)
   (try rw [show ((1 : Int)).toNat = 1 from rfl] at hx532_0)
   have HR532_0 := Aside0.mk hi532_0
   have HC532_0 := Aside0.mk hl532_0
   clear hi532_0 hl532_0
   replace p532 := eq_true p532
   replace q532 := eq_true q532
   refine start_ (n := 8) (S := fun w' => w'.cell? ad531 = some (.slice A531_0 (rd_L7 t528 0).length c531_0) ∧ w'.cell? ⟨ad531.block, ad531.off + 1, none⟩ = some (.slice A532_0 (rd_L7 t528 1).length c532_0)) (ds := []) #[false, false, false, false, false, false, false, false] (by kernel_rfl) rfl rfl ⟨hx531_0, hx532_0⟩ (fun hHeld => ?_); refine with_tabW merge_match.tab2 merge_match.bits2 (fun HT_ HW_ => ?_)
   generalize w10.drew = w11 at HO0 HO1 HO527 HO530 HB HL531_0 HL532_0 HR531_0 HR532_0 hx531_0 hx532_0 hHeld ⊢
   refine pure_ (i := 0) (N := some 10) (v := ?_) (a' := ?_) #[true, false, false, false, false, false, false, false] rfl rfl (any_of HT_.out (by kernel_rfl)) (fun _ _ _ h => h) (Or.inl ⟨by rfl, ?_⟩) ?_ ?_
   rotate_left
   ·intro w'
    go_simp
    with_reducible rfl
   rotate_left
   ·simp only [Act.put, List.setIfInBounds_toArray, List.set_cons_zero, List.set_cons_succ, i64_w, i32_w]
    rfl
   refine pure_ (i := 1) (N := some 11) (v := ?_) (a' := ?_) #[true, true, false, false, false, false, false, false] rfl rfl (any_of HT_.out (by kernel_rfl)) (fun _ _ _ h => h) (Or.inl ⟨by rfl, ?_⟩) ?_ ?_
   rotate_left
   ·intro w'
    go_simp
    with_reducible rfl
   rotate_left
   ·simp only [Act.put, List.setIfInBounds_toArray, List.set_cons_zero, List.set_cons_succ, i64_w, i32_w]
    rfl
   refine pure_ (i := 3) (N := some 13) (v := ?_) (a' := ?_) #[true, true, false, true, false, false, false, false] rfl rfl (any_of HT_.out (by kernel_rfl)) (fun _ _ _ h => h) (Or.inl ⟨by rfl, ?_⟩) ?_ ?_
   rotate_left
   ·intro w'
    go_simp
    with_reducible rfl
   rotate_left
   ·simp only [Act.put, List.setIfInBounds_toArray, List.set_cons_zero, List.set_cons_succ, i64_w, i32_w]
    rfl
   refine pure_ (i := 4) (N := some 14) (v := ?_) (a' := ?_) #[true, true, false, true, true, false, false, false] rfl rfl (any_of HT_.out (by kernel_rfl)) (fun _ _ _ h => h) (Or.inl ⟨by rfl, ?_⟩) ?_ ?_
   rotate_left
   ·intro w'
    go_simp
    with_reducible rfl
   rotate_left
   ·simp only [Act.put, List.setIfInBounds_toArray, List.set_cons_zero, List.set_cons_succ, i64_w, i32_w]
    rfl
   refine take_ (i := 2) (N := some 12) (v := ?_) (a' := ?_) #[true, true, true, true, true, false, false, false] rfl rfl (take_ofW HT_.out HW_.out (by kernel_rfl)) (fun _ _ _ h => h) (Or.inl ⟨by rfl, ?_⟩) hHeld ?_ ?_
   rotate_left
   ·rintro w' ⟨s0, s1⟩
    go_simp
    with_reducible rfl
   rotate_left
   ·simp only [Act.put, List.setIfInBounds_toArray, List.set_cons_zero, List.set_cons_succ, i64_w, i32_w]
    rfl
   refine take_ (i := 5) (N := some 15) (v := ?_) (a' := ?_) #[true, true, true, true, true, true, false, false] rfl rfl (take_ofW HT_.out HW_.out (by kernel_rfl)) (fun _ _ _ h => h) (Or.inl ⟨by rfl, ?_⟩) hHeld ?_ ?_
   rotate_left
   ·rintro w' ⟨s0, s1⟩
    go_simp
    with_reducible rfl
   rotate_left
   ·simp only [Act.put, List.setIfInBounds_toArray, List.set_cons_zero, List.set_cons_succ, i64_w, i32_w]
    rfl
   refine one_ (i := 6) (N := some 16) #[true, true, true, true, true, true, true, false] rfl rfl (one_of HT_.out (by kernel_rfl)) (by decide) (fun K hK => ?_)
   refine goes_ Try.func132 (by kernel_rfl) rfl #[.slice A531_0 (rd_L7 t528 0).length c531_0, .slice A532_0 (rd_L7 t528 1).length c532_0] (by rfl) rfl rfl (by (try simp only [List.map_toArray, List.map_cons, List.map_nil]); first | done | rfl | (simp only [List.length_drop, List.length_take]; rfl)) ?_
   with_reducible refine (lcs_Match.calls _ _ (rd_L7 t528 0) _ _ (rd_L7 t528 1) t533 _ ?side1 ?side2 ?side3 ?side4 A6.out).mono ?_
   (case side1 => repeat (first | exact (by repeat (first | (with_reducible exact HR531_0.out) | (with_reducible refine Kd.C_alloc ?_ _) | (with_reducible refine Kd.C_drewN ?_ _) | (with_reducible refine Kd.C_drew ?_) | exact HR531_0.out)) | (with_reducible refine Kd.C_alloc ?_ _) | (with_reducible refine Kd.C_drewN ?_ _) | (with_reducible refine Kd.C_drew ?_)))
   (case side2 => exact HC531_0.out)
   (case side3 => repeat (first | exact (by repeat (first | (with_reducible exact HR532_0.out) | (with_reducible refine Kd.C_alloc ?_ _) | (with_reducible refine Kd.C_drewN ?_ _) | (with_reducible refine Kd.C_drew ?_) | exact HR532_0.out)) | (with_reducible refine Kd.C_alloc ?_ _) | (with_reducible refine Kd.C_drewN ?_ _) | (with_reducible refine Kd.C_drew ?_)))
   (case side4 => exact HC532_0.out)
   rintro e w13 ⟨v534, rfl, ho0, hb⟩
   have HS0_ := (hb.cell (World.block_lt_of_cell? _ _ (hHeld.1))).trans (hHeld.1)
   have HS1_ := (hb.cell (World.block_lt_of_cell? _ _ (hHeld.2))).trans (hHeld.2)
   refine ⟨_, rfl, ?_⟩
   have n0_ := Aside0.mk (Kd.V_elder' (by (with_reducible repeat (first | apply Kd.V_alloc | apply Kd.V_drewN | apply Kd.V_drew)); exact HO0.out) (Kd.R_base ho0) hb)
   have n1_ := Aside0.mk (Kd.V_elder' (by (with_reducible repeat (first | apply Kd.V_alloc | apply Kd.V_drewN | apply Kd.V_drew)); exact HO1.out) (Kd.R_base ho0) hb)
   have n2_ := Aside0.mk (Kd.N_elder' (by (with_reducible repeat (first | apply Kd.N_alloc | apply Kd.N_drewN | apply Kd.N_drew)); exact HO527.out) (Kd.R_base ho0) hb)
   have n3_ := Aside0.mk (Kd.N_elder' (by (with_reducible repeat (first | apply Kd.N_alloc | apply Kd.N_drewN | apply Kd.N_drew)); exact HO530.out) (Kd.R_base ho0) hb)
   have n4_ := Aside0.mk (Kd.V_elder' (by (with_reducible repeat (first | apply Kd.V_alloc | apply Kd.V_drewN | apply Kd.V_drew)); exact HL531_0.out) (Kd.R_base ho0) hb)
   have n5_ := Aside0.mk (Kd.V_elder' (by (with_reducible repeat (first | apply Kd.V_alloc | apply Kd.V_drewN | apply Kd.V_drew)); exact HL532_0.out) (Kd.R_base ho0) hb)
   have n6_ := Aside0.mk (Kd.R_lower (Kd.R_newM (M := fun k_ => (w.heap.size ≤ k_)) ho0 (below_size (by repeat (first | (with_reducible first | exact HB.out | apply below_alloc | apply pw_below_drewN | apply below_drew1) | exact HB.out))) (fun k_ h_ => h_)) (below_size (by repeat (first | (with_reducible first | exact HB.out | apply below_alloc | apply pw_below_drewN | apply below_drew1) | exact HB.out))))
   have n7_ := Aside0.mk (Kd.C_below (by repeat (first | (with_reducible exact HR531_0.out) | (with_reducible refine Kd.C_alloc ?_ _) | (with_reducible refine Kd.C_drewN ?_ _) | (with_reducible refine Kd.C_drew ?_) | exact HR531_0.out)) hb)
   have n8_ := Aside0.mk (Kd.C_below (by repeat (first | (with_reducible exact HR532_0.out) | (with_reducible refine Kd.C_alloc ?_ _) | (with_reducible refine Kd.C_drewN ?_ _) | (with_reducible refine Kd.C_drew ?_) | exact HR532_0.out)) hb)
   have n9_ := Aside0.mk (below_step (by repeat (first | (with_reducible first | exact HB.out | apply below_alloc | apply pw_below_drewN | apply below_drew1) | exact HB.out)) hb)
   clear HO0
   clear HO1
   clear HO527
   clear HO530
   clear HL531_0
   clear HL532_0
   clear HR531_0
   clear HR532_0
   clear HB
   have HO0 := n0_
   have HO1 := n1_
   have HO527 := n2_
   have HO530 := n3_
   have HL531_0 := n4_
   have HL532_0 := n5_
   have HO535 := n6_
   have HR531_0 := n7_
   have HR532_0 := n8_
   have HB := n9_
   clear n0_ n1_ n2_ n3_ n4_ n5_ n6_ n7_ n8_ n9_
   (try clear hb)
   (try clear hb2)
   (try clear hk)
   (try clear hi)
   (try clear ho0)
   refine hK.out _ _ ⟨HS0_, HS1_⟩ (fun hHeld => ?_)
   clear hK K
   refine norm_ (a' := ?_) ?_ ?_
   rotate_left
   ·show Act.put _ (some 16) _ = _
    simp only [Act.put, List.setIfInBounds_toArray, List.set_cons_zero, List.set_cons_succ, i64_w, i32_w]
    rfl
   refine pure_ (i := 7) (N := some 4) (v := ?_) (a' := ?_) #[true, true, true, true, true, true, true, true] rfl rfl (any_of HT_.out (by kernel_rfl)) (fun _ _ _ h => h) (Or.inl ⟨by rfl, ?_⟩) ?_ ?_
   rotate_left
   ·intro w'
    go_simp
    with_reducible rfl
   rotate_left
   ·simp only [Act.put, List.setIfInBounds_toArray, List.set_cons_zero, List.set_cons_succ, i64_w, i32_w]
    rfl
   refine done_ (done_of HT_.out (by kernel_rfl)) ?_
   try go_wp2
   go_ret
   exact ⟨_, by first | rfl | (simp [errW_none, errW_some] <;> rfl) | (simp [*, errW_none, errW_some] <;> rfl), by (with_reducible repeat (first | apply Kd.R_alloc | apply Kd.R_drewN | apply Kd.R_drew)); exact Kd.R_mono HO535.out (fun _ hk => hk.1), by repeat (first | (with_reducible first | exact HB.out | apply below_alloc | apply pw_below_drewN | apply below_drew1) | exact HB.out)⟩
  ·rw [if_neg c5] at H
   exact absurd H (by simp)
 ·rw [if_neg c4] at H
  exact absurd H (by simp)
end Go.Proofs.Ytfiamddinkokbaa.F
end

section
set_option linter.unusedVariables false
set_option linter.unusedSimpArgs false
namespace Go.Proofs.Ytfiamddinkokbaa.F
open Go.RowKit Go.Proofs.YtfiamddinkokbaaW.PrintWords Go.Proofs.YtfiamddinkokbaaW.PrintLast Go.Proofs.YtfiamddinkokbaaW.PrintMore
attribute [local go_sem] max2_int min2_int max_two min_two max_three min_three max_four min_four
set_option linter.unusedVariables false
set_option linter.unusedSimpArgs false
def build_Doc.f (k : Nat) (l0_0 l0_1 l0_2 : List ByteArray) (l1 : List S91) (a2 : Int) (a3_0 a3_1 a3_2 : ByteArray) (a4 : Int) : Option ((List S106) × Int) := docF k l0_0 l0_1 l0_2 l1 a2 a3_0 a3_1 a3_2 a4
theorem build_Doc.mono : ∀ l0_0 l0_1 l0_2 l1 a2 a3_0 a3_1 a3_2 a4 k, LeO (build_Doc.f k l0_0 l0_1 l0_2 l1 a2 a3_0 a3_1 a3_2 a4) (build_Doc.f (k + 1) l0_0 l0_1 l0_2 l1 a2 a3_0 a3_1 a3_2 a4) := doc_mono
theorem build_Doc.calls (k : Nat) (A0_0 : Option Addr) (c0_0 : Nat) (l0_0 : List ByteArray) (A0_1 : Option Addr) (c0_1 : Nat) (l0_1 : List ByteArray) (A0_2 : Option Addr) (c0_2 : Nat) (l0_2 : List ByteArray) (A1 : Option Addr) (c1 : Nat) (l1 : List (S91)) (a2 : Int) (a3_0 : ByteArray) (a3_1 : ByteArray) (a3_2 : ByteArray) (a4 : Int) (r1 : List (S106)) (r2 : Int) (w : World) (hr0_0 : Kd.C Kd.string w A0_0 l0_0.length l0_0) (hc0_0 : l0_0.length ≤ c0_0) (hr0_1 : Kd.C Kd.string w A0_1 l0_1.length l0_1) (hc0_1 : l0_1.length ≤ c0_1) (hr0_2 : Kd.C Kd.string w A0_2 l0_2.length l0_2) (hc0_2 : l0_2.length ≤ c0_2) (hr1 : Kd.C k91 w A1 l1.length l1) (hc1 : l1.length ≤ c1) (h : build_Doc.f k l0_0 l0_1 l0_2 l1 a2 a3_0 a3_1 a3_2 a4 = some (r1, r2)) :
  Calls Try.prog 104 #[.agg #[.slice A0_0 l0_0.length c0_0, .slice A0_1 l0_1.length c0_1, .slice A0_2 l0_2.length c0_2], .slice A1 l1.length c1, .int .i64 a2, .agg #[.string a3_0, .string a3_1, .string a3_2], .int .i64 a4] w fun e w' => ∃ v0_ : Value, e = .returned (.tuple #[v0_, .int .i64 r2]) ∧ Kd.R k106 106 w' w.heap.size (fun _ => True) v0_ r1 ∧ Below w.heap.size w w' := by
 exact doc_calls k A0_0 c0_0 l0_0 A0_1 c0_1 l0_1 A0_2 c0_2 l0_2 A1 c1 l1 a2 a3_0 a3_1 a3_2 a4 r1 r2 w hr0_0 hc0_0 hr0_1 hc0_1 hr0_2 hc0_2 hr1 hc1 h
end Go.Proofs.Ytfiamddinkokbaa.F
end
