/- Texts joined into one file (wip/tools/pack.py): Print, Pure, Fn43, Fn40, Fn29 -/
import Derived.Test.YtfiamddinkokbaaPB15
import Derived.Test.YtfiamddinkokbaaPB3
import Derived.Deep.RegionHeld3
import Derived.Test.YtfiamddinkokbaaPB2
import Derived.Test.YtfiamddinkokbaaPB1
set_option linter.unusedVariables false
set_option linter.unusedSimpArgs false
section
namespace Go.Proofs.Ytfiamddinkokbaa.F
open Go.RowKit Go.Shelf Go.Proofs.YtfiamddinkokbaaW.PrintWords
def Pr (B b : Nat) (wd : Int) (lk : Bool) (bs : List UInt8) (w : World) : Prop :=
 ∃ p v, BldAt 129 0 B b #[p, v, .int .i64 wd, .bool lk] p v bs w
theorem Pr.below {B b : Nat} {wd : Int} {lk : Bool} {bs : List UInt8} {w w' : World} (h : Pr B b wd lk bs w) (hb : Below w.heap.size w w') : Pr B b wd lk bs w' := by
 obtain ⟨p, v, h⟩ := h
 refine ⟨p, v, ⟨h.lo, (hb.block b h.lt).trans h.blk, h.at0, h.at1, h.ptr, ?_, h.ne⟩⟩
 exact ownF_move h.own (fun k hk => hb.block k (h.own.lt k hk).2)
theorem Pr.wd {B b : Nat} {wd : Int} {lk : Bool} {bs : List UInt8} {w : World} (h : Pr B b wd lk bs w) : w.cell? ⟨b, 2, none⟩ = some (.int .i64 wd) := by
 obtain ⟨p, v, h⟩ := h; exact (Lib.cell_of_heap h.blk 2).trans rfl
theorem Pr.lk {B b : Nat} {wd : Int} {lk : Bool} {bs : List UInt8} {w : World} (h : Pr B b wd lk bs w) : w.cell? ⟨b, 3, none⟩ = some (.bool lk) := by
 obtain ⟨p, v, h⟩ := h; exact (Lib.cell_of_heap h.blk 3).trans rfl
theorem Pr.fz {B b : Nat} {wd : Int} {lk : Bool} {bs : List UInt8} {w : World} (h : Pr B b wd lk bs w) (i : Nat) : w.frozen? ⟨b, i, none⟩ = false := by
 obtain ⟨p, v, h⟩ := h; exact Lib.frozen_of_heap h.blk i
theorem Pr.lo {B b : Nat} {wd : Int} {lk : Bool} {bs : List UInt8} {w : World} (h : Pr B b wd lk bs w) : B ≤ b := by obtain ⟨p, v, h⟩ := h; exact h.lo
theorem Pr.lt {B b : Nat} {wd : Int} {lk : Bool} {bs : List UInt8} {w : World} (h : Pr B b wd lk bs w) : b < w.heap.size := by obtain ⟨p, v, h⟩ := h; exact h.lt
theorem Pr.put {B b : Nat} {wd : Int} {lk : Bool} {bs : List UInt8} {w : World} (h : Pr B b wd lk bs w) (l : Bool) : Pr B b wd l bs (w.setCell ⟨b, 3, none⟩ (.bool l)) := by
 obtain ⟨p, v, h⟩ := h
 refine ⟨p, v, ⟨h.lo, ?_, rfl, rfl, h.ptr, ?_, h.ne⟩⟩
 ·have := h.blk
  simp [World.setCell, Array.getElem?_modify, this]
 ·exact ownF_move h.own (fun k hk => Below.heap_setCell _ _ _ _ (fun e => h.ne (by rw [hk, e])))
def KeepT (b : Nat) (w w' : World) : Prop := ∀ k cs t fr, w.heap[k]? = some (.cells cs t fr) → t ≠ 5 → k ≠ b → w'.heap[k]? = w.heap[k]?
theorem KeepT.refl (b : Nat) (w : World) : KeepT b w w := fun _ _ _ _ _ _ _ => rfl
theorem KeepT.trans {b : Nat} {w w1 w2 : World} (h : KeepT b w w1) (g : KeepT b w1 w2) : KeepT b w w2 := fun k cs t fr hk ht hb => by
 have h1 := h k cs t fr hk ht hb
 rw [g k cs t fr (h1.trans hk) ht hb, h1]
theorem KeepT.below {b : Nat} {w w' : World} (h : Below w.heap.size w w') : KeepT b w w' := fun k cs t fr hk _ _ => h.block k (Array.getElem?_eq_some_iff.1 hk).1
theorem KeepT.set {b : Nat} {w w' : World} (h : KeepT b w w') (i : Nat) (v : Value) : KeepT b w (w'.setCell ⟨b, i, none⟩ v) := fun k cs t fr hk ht hb => by
 rw [Below.heap_setCell _ _ _ _ hb]; exact h k cs t fr hk ht hb
theorem KeepT.drewN {b : Nat} {w w' : World} (h : KeepT b w w') (n : Nat) : KeepT b w (w'.drewN n) := fun k cs t fr hk ht hb => (h k cs t fr hk ht hb)
theorem KeepT.cell {b : Nat} {w w' : World} (h : KeepT b w w') {k : Nat} {cs : Array Value} {t : TypeId} (hk : w.heap[k]? = some (.cells cs t (0, 0))) (ht : t ≠ 5) (hb : k ≠ b) : w'.heap[k]? = some (.cells cs t (0, 0)) :=
 (h k cs t (0, 0) hk ht hb).trans hk
theorem pr_write {B b : Nat} {wd : Int} {lk : Bool} {bs : List UInt8} {w : World} (s : ByteArray) (h : Pr B b wd lk bs w) (hlen : bs.length + s.size ≤ 140737488355328) (hBw : B ≤ w.heap.size) :
  Calls Try.prog 87 #[.pointer (some ⟨b, 0, none⟩), .string s] w fun e w' => e = .returned (.tuple #[.int .i64 s.size, .nilIface]) ∧ Pr B b wd lk (bs ++ s.data.toList) w' ∧ Below B w w' ∧ KeepT b w w' := by
 obtain ⟨p, v, h⟩ := h
 refine (bld_write s h (by kernel_rfl) (by decide) hlen hBw).mono ?_
 rintro e w' ⟨rfl, v', h', hb, hk⟩
 refine ⟨rfl, ⟨_, v', h'⟩, hb, fun k cs t fr hkk ht hkb => hk k (Array.getElem?_eq_some_iff.1 hkk).1 hkb (fun e => ?_)⟩
 obtain ⟨cells, fz, hc⟩ := ownF_typed h.own k e.symm
 rw [hkk] at hc
 injection hc with hc
 injection hc with _ hc _
 exact ht hc
theorem pr_drawn {n : Nat} {w w' : World} (h : Below n w.drew w') : Below n w w' := ⟨h.os, h.tape, h.output, h.size, h.block⟩
set_option maxHeartbeats 8000000 in
set_option maxRecDepth 100000 in
theorem pr_marker {B b : Nat} {wd : Int} {lk : Bool} {bs : List UInt8} {w : World} (k : Int) (lb : ByteArray) (h : Pr B b wd lk bs w) (h0 : 0 ≤ k) (h1 : k < 128) (w0 : 0 ≤ wd) (w1 : wd ≤ 1073741824) (hl : lb.size ≤ 4000000000)
  (hlen : bs.length + (lineB k lk lb wd).size ≤ 140737488355328) (hBw : B ≤ w.heap.size) :
  Calls Try.prog 124 #[.pointer (some ⟨b, 0, none⟩), .int .u8 k, .string lb] w fun e w' => e = .returned (.tuple #[]) ∧ Pr B b wd false (bs ++ (lineB k lk lb wd).data.toList) w' ∧ Below B w w' ∧ KeepT b w w' := by
 have HL := fun W => line_calls k lk lb wd W h0 h1 w0 w1 hl
 have HP := Aside0.mk h
 have c2 := h.wd
 have c3 := h.lk
 have HBw := Aside0.mk hBw
 generalize lineB k lk lb wd = ln at HL hlen ⊢
 clear hl h hBw
 go_enter Try.func124, Try.ntmps124
 go_wp2_with fail
 go_region_with ((first
  | (go_at_call 96; refine (HL _).mono ?_; rintro e w1 ⟨rfl, hb1⟩; have HP1 := Aside0.mk (HP.out.below (pr_drawn hb1)); have HB1 := Aside0.mk (Below.mono (pr_drawn hb1) HBw.out); have HK1 := Aside0.mk (KeepT.below (b := b) (w := w) (pr_drawn hb1)); clear hb1)
  | (go_at_call 87; refine (pr_write ln HP1.out hlen (Nat.le_trans HBw.out HB1.out.size)).mono ?_; rintro e w2 ⟨rfl, hp2, hb2, hk2⟩)))
 all_goals have f3 := hp2.fz 3
 all_goals have d3 := hp2.lk
 all_goals have BB := Aside0.mk (Below.trans HB1.out hb2)
 all_goals have HK2 := Aside0.mk (KeepT.trans HK1.out hk2)
 all_goals have HP2 := Aside0.mk hp2
 all_goals clear hp2 hb2 HP HP1 HB1 hk2 HK1
 all_goals go_wp2
 all_goals go_end0
 all_goals exact ⟨rfl, HP2.out.put false, Below.setCell (p := ⟨b, 3, none⟩) BB.out HP2.out.lo _, HK2.out.set 3 _⟩
theorem pr_step {B b : Nat} {wd : Int} {lk : Bool} {bs : List UInt8} {w : World} (h : Pr B b wd lk bs w) (nd : Nat) (l : Bool) : Pr B b wd l bs ((w.drewN nd).setCell ⟨b, 3, none⟩ (.bool l)) :=
 (h.below (pw_below_drewN (Below.refl _ _) nd)).put l
theorem pr_size {B b : Nat} {w w1 : World} (h : B ≤ w.heap.size) (hb : Below B w w1) (nd : Nat) (l : Bool) : B ≤ ((w1.drewN nd).setCell ⟨b, 3, none⟩ (.bool l)).heap.size := by
 have := hb.size
 simp [World.setCell]; omega
theorem size_dataL (s : ByteArray) : s.data.toList.length = s.size := Array.length_toList
def lacksB (s : ByteArray) (q : Bool) : Bool := !s.toList.isEmpty && !q
def sideL (s : ByteArray) (q : Bool) : List UInt8 := s.data.toList ++ (if lacksB s q = true then [10] else [])
set_option maxHeartbeats 8000000 in
set_option maxRecDepth 100000 in
theorem pr_side {B b : Nat} {wd : Int} {lk : Bool} {bs : List UInt8} {w : World} (s : ByteArray) (q : Bool) (h : Pr B b wd lk bs w) (hq : strings_HasSuffix.f s ⟨#[10]⟩ = some q)
  (hlen : bs.length + s.size + 1 ≤ 140737488355328) (hBw : B ≤ w.heap.size) :
  Calls Try.prog 125 #[.pointer (some ⟨b, 0, none⟩), .string s] w fun e w' => e = .returned (.tuple #[]) ∧ Pr B b wd (lacksB s q) (bs ++ sideL s q) w' ∧ Below B w w' ∧ KeepT b w w' := by
 have HQ := fun W => strings_HasSuffix.calls s ⟨#[10]⟩ q W hq
 have HP := Aside0.mk h
 have HBw := Aside0.mk hBw
 have HD := size_dataL s
 clear h hBw
 have hsz : (⟨#[10]⟩ : ByteArray).size = 1 := rfl
 have hlen2 : bs.length + s.size ≤ 140737488355328 := by omega
 have hlen3 : (bs ++ s.data.toList).length + (⟨#[10]⟩ : ByteArray).size ≤ 140737488355328 := by rw [List.length_append, HD, hsz]; omega
 go_enter Try.func125, Try.ntmps125
 go_wp2_with (first
  | (go_at_call_of 87 (Value.string s); refine (pr_write s HP.out hlen2 HBw.out).mono ?_; rintro e w1 ⟨rfl, hp1, hb1, hk1⟩; have f3 := hp1.fz 3; have d3 := hp1.lk; have HP1 := Aside0.mk hp1; have HB1 := Aside0.mk hb1; have HK1 := Aside0.mk hk1; clear HP hp1 hb1 hk1)
  | (go_at_call_of 87 (Value.string ⟨#[10]⟩); refine (pr_write ⟨#[10]⟩ (pr_step HP1.out nd true) hlen3 (pr_size HBw.out HB1.out nd true)).mono ?_; rintro e w3 ⟨rfl, hp3, hb3, hk3⟩; have HP3 := Aside0.mk hp3; have HB3 := Aside0.mk hb3; have HK3 := Aside0.mk hk3; clear hp3 hb3 hk3)
  | (go_at_call 115; refine (HQ _).mono ?_; rintro e w2 ⟨rfl, nd, rfl⟩))
 ·go_end0
  have hl : lacksB s q = false := by unfold lacksB; simp_all
  rw [hl]
  have hs : sideL s q = s.data.toList := by unfold sideL; rw [hl]; simp
  rw [hs]
  exact ⟨rfl, HP1.out.put false, Below.setCell (p := ⟨b, 3, none⟩) HB1.out HP1.out.lo _, HK1.out.set 3 _⟩
 ·go_end0
  have hl : lacksB s q = true := by unfold lacksB; simp_all
  rw [hl]
  have hs : sideL s q = s.data.toList ++ [10] := by unfold sideL; rw [hl]; rfl
  rw [hs, ← List.append_assoc]
  exact ⟨rfl, HP3.out, Below.trans (Below.setCell (p := ⟨b, 3, none⟩) (pw_below_drewN HB1.out nd) HP1.out.lo _) HB3.out, KeepT.trans ((HK1.out.drewN nd).set 3 _) HK3.out⟩
 ·go_end0
  have hl : (!s.toList.isEmpty && !q) = false := by simp_all
  rw [hl]
  have hl' : lacksB s q = false := hl
  rw [hl']
  have hs : sideL s q = s.data.toList := by unfold sideL; rw [hl']; simp
  rw [hs]
  exact ⟨rfl, pr_step HP1.out nd false, Below.setCell (p := ⟨b, 3, none⟩) (pw_below_drewN HB1.out nd) HP1.out.lo _, (HK1.out.drewN nd).set 3 _⟩
end Go.Proofs.Ytfiamddinkokbaa.F
end

section
namespace Go.Proofs.Ytfiamddinkokbaa
open Go.RowKit Go.Proofs.YtfiamddinkokbaaW.PrintWords
def Ev {α : Type} (F : Nat → Option α) (v : α) : Prop := ∃ K, ∀ k, K ≤ k → F k = some v
namespace Ev
variable {α β : Type} {F G : Nat → Option α} {H : Nat → α → Option β} {v a : α} {b : β}
theorem get (h : Ev F v) : ∃ k, F k = some v := let ⟨K, hK⟩ := h; ⟨K, hK K (Nat.le_refl K)⟩
theorem val {x : α} (h : x = v) : Ev (fun _ => some x) v := ⟨0, fun _ _ => by rw [h]⟩
theorem const {o : Option α} (h : o = some v) : Ev (fun _ => o) v := ⟨0, fun _ _ => h⟩
theorem of_mono (hm : ∀ k, LeO (F k) (F (k + 1))) {k : Nat} (h : F k = some v) : Ev F v := ⟨k, fun j hj => by
 induction hj with
 | refl => exact h
 | step _ ih => exact hm _ _ ih⟩
theorem succ (h : Ev (fun k => F (k + 1)) v) : Ev F v := let ⟨K, hK⟩ := h; ⟨K + 1, fun k hk => by
 obtain ⟨j, rfl⟩ : ∃ j, k = j + 1 := ⟨k - 1, by omega⟩
 exact hK j (by omega)⟩
theorem pos {c : Prop} [Decidable c] (hc : c) (h : Ev F v) : Ev (fun k => if c then F k else G k) v := by simpa only [if_pos hc] using h
theorem neg {c : Prop} [Decidable c] (hc : ¬ c) (h : Ev G v) : Ev (fun k => if c then F k else G k) v := by simpa only [if_neg hc] using h
theorem bind {F : Nat → Option α} (h : Ev F a) (h' : Ev (fun k => H k a) b) : Ev (fun k => (F k).bind (H k)) b := by
 obtain ⟨K, hK⟩ := h
 obtain ⟨L, hL⟩ := h'
 refine ⟨max K L, fun k hk => ?_⟩
 show (F k).bind (H k) = some b
 rw [hK k (by omega)]
 exact hL k (by omega)
theorem cast (h : Ev F a) (e : a = v) : Ev F v := e ▸ h
end Ev
theorem wrap_in {n : Int} (h0 : -9223372036854775808 ≤ n) (h1 : n ≤ 9223372036854775807) : wrap64 n = n := by unfold wrap64; omega
theorem size_data (s : ByteArray) : s.data.toList.length = s.size := Array.length_toList
theorem bytes_toList (s : ByteArray) : s.toList = s.data.toList := by
 exact ByteArray.toList_eq s
theorem bytes_bt (s : ByteArray) (i : Int) (xs ys : List UInt8) (c : UInt8) (h : s.data.toList = xs ++ c :: ys) (hi : i = xs.length) : bt s i = (c.toNat : Int) := by
 have hs : xs.length < s.size := by rw [← size_data, h]; simp
 subst hi
 unfold bt
 rw [dif_pos (by simpa using hs)]
 have : s.data.toList[xs.length]? = some c := by rw [h]; simp
 have h2 := getElem?_byte s xs.length hs
 rw [this] at h2
 have h3 : s[xs.length] = c := (Option.some.inj h2).symm
 simp only [Int.toNat_natCast, h3]
theorem extract_at (s : ByteArray) (i j : Int) (xs ys zs : List UInt8) (h : s.data.toList = xs ++ ys ++ zs) (hi : i = xs.length) (hj : j = xs.length + ys.length) : s.extract i.toNat j.toNat = toB ys := by
 subst hi hj
 have hd : (s.extract (xs.length : Int).toNat ((xs.length : Int) + ys.length).toNat).data.toList = ys := by
  rw [ByteArray.data_extract, Array.toList_extract, h]
  simp [Int.toNat_natCast]
  rw [show ((xs.length : Int) + ys.length).toNat = xs.length + ys.length from by omega]
  simp
 rw [← toB_data (s.extract _ _), hd]
theorem size_toB (l : List UInt8) : (toB l).size = l.length := by rw [← size_data, data_toB]
theorem bytes_ext {a b : ByteArray} (h : a.data.toList = b.data.toList) : a = b := by rw [← toB_data a, h, toB_data]
theorem rdOf_at {α : Type} (d : α) (l : List α) (i : Int) (xs ys : List α) (c : α) (h : l = xs ++ c :: ys) (hi : i = xs.length) : rdOf d l i = c := by
 subst h hi
 unfold rdOf
 simp [Int.toNat_natCast, List.getD_eq_getElem?_getD]
end Go.Proofs.Ytfiamddinkokbaa
end

section
namespace Go.Proofs.Ytfiamddinkokbaa.F
open Go.RowKit Go.Proofs.YtfiamddinkokbaaW.PrintWords Go.Proofs.YtfiamddinkokbaaW.PrintLast Go.Proofs.YtfiamddinkokbaaW.PrintMore
attribute [local go_sem] max2_int min2_int max_two min_two max_three min_three max_four min_four
def lines_Run.f (a0 : ByteArray) : Option Int := if a0.size ≤ 4000000000 then some ((runL a0.data.toList : Nat) : Int) else none
theorem lines_Run.calls (a0 : ByteArray) (r : Int) (w : World) (h : lines_Run.f a0 = some r) :
  Calls Try.prog 43 #[.string a0] w fun e w' => e = .returned (.int .i64 r) ∧ Below w.heap.size w w' := by
 exact ext_run a0 r w h
mutual
def lines_Longest.l0 : Nat → Int → List (List ByteArray) → Int → Int → Option (Int)
 | 0, _, _, _, _ => none
 | k + 1, x3, x8, x9, x10 => if x10 < x9 then (if 0 ≤ x10 then (if x10 < (x8.length : Int) then (lines_Longest.l1 k x3 x8 x9 x10 (rd_L1 x8 x10) ((rd_L1 x8 x10).length : Int) 0) else (none)) else (none)) else (some x3)
def lines_Longest.l1 : Nat → Int → List (List ByteArray) → Int → Int → List ByteArray → Int → Int → Option (Int)
 | 0, _, _, _, _, _, _, _ => none
 | k + 1, x3, x8, x9, x10, x14, x15, x16 => if x16 < x15 then (if 0 ≤ x16 then (if x16 < (x14.length : Int) then ((lines_Run.f (rdOf ByteArray.empty x14 x16)).bind fun t103 => (lines_Longest.l1 k (mx x3 t103) x8 x9 x10 x14 x15 (wrap64 (x16 + 1)))) else (none)) else (none)) else (lines_Longest.l0 k x3 x8 x9 (wrap64 (x10 + 1)))
end
def lines_Longest.f (k : Nat) (l0 : List (List ByteArray)) : Option (Int) := lines_Longest.l0 k 0 l0 (l0.length : Int) 0
theorem lines_Longest.mono_l : ∀ k, (∀ y0 y1 y2 y3, LeO (lines_Longest.l0 k y0 y1 y2 y3) (lines_Longest.l0 (k + 1) y0 y1 y2 y3)) ∧ (∀ y0 y1 y2 y3 y4 y5 y6, LeO (lines_Longest.l1 k y0 y1 y2 y3 y4 y5 y6) (lines_Longest.l1 (k + 1) y0 y1 y2 y3 y4 y5 y6))
 | 0 => ⟨fun _ _ _ _ r h => by simp [lines_Longest.l0] at h, fun _ _ _ _ _ _ _ r h => by simp [lines_Longest.l1] at h⟩
 | k + 1 => by
  obtain ⟨ih0, ih1⟩ := lines_Longest.mono_l k
  refine ⟨?_, ?_⟩
  ·intro y0 y1 y2 y3
   unfold lines_Longest.l0
   repeat' first
   | (with_reducible exact ih0 _ _ _ _)
   | (with_reducible exact ih1 _ _ _ _ _ _ _)
   | (with_reducible exact LeO.refl _)
   | (with_reducible exact LeO.none _)
   | (with_reducible refine LeO.ite ?_ ?_)
   | (with_reducible refine LeO.bind ?_ (fun _ => ?_))
   | exact ih0 _ _ _ _
   | exact ih1 _ _ _ _ _ _ _
   | exact LeO.none _
   | refine LeO.ite ?_ ?_
   | refine LeO.bind ?_ (fun _ => ?_)
  ·intro y0 y1 y2 y3 y4 y5 y6
   unfold lines_Longest.l1
   repeat' first
   | (with_reducible exact ih0 _ _ _ _)
   | (with_reducible exact ih1 _ _ _ _ _ _ _)
   | (with_reducible exact LeO.refl _)
   | (with_reducible exact LeO.none _)
   | (with_reducible refine LeO.ite ?_ ?_)
   | (with_reducible refine LeO.bind ?_ (fun _ => ?_))
   | exact ih0 _ _ _ _
   | exact ih1 _ _ _ _ _ _ _
   | exact LeO.none _
   | refine LeO.ite ?_ ?_
   | refine LeO.bind ?_ (fun _ => ?_)
theorem lines_Longest.mono : ∀ a0 k, LeO (lines_Longest.f k a0) (lines_Longest.f (k + 1) a0) := by
 intro a0 k
 obtain ⟨ih0, ih1⟩ := lines_Longest.mono_l k
 unfold lines_Longest.f
 repeat' first
   | (with_reducible exact ih0 _ _ _ _)
   | (with_reducible exact ih1 _ _ _ _ _ _ _)
   | (with_reducible exact LeO.refl _)
   | (with_reducible exact LeO.none _)
   | (with_reducible refine LeO.ite ?_ ?_)
   | (with_reducible refine LeO.bind ?_ (fun _ => ?_))
   | exact ih0 _ _ _ _
   | exact ih1 _ _ _ _ _ _ _
   | exact LeO.none _
   | refine LeO.ite ?_ ?_
   | refine LeO.bind ?_ (fun _ => ?_)
set_option maxHeartbeats 8000000 in
set_option maxRecDepth 100000 in
theorem lines_Longest.calls (k : Nat) (A0 : Option Addr) (c0 : Nat) (l0 : List (List ByteArray)) (r : Int) (w : World) (hr0 : Kd.C (Kd.slice 9 Kd.string) w A0 l0.length l0) (hc0 : l0.length ≤ c0) (h : lines_Longest.f k l0 = some r) :
  Calls Try.prog 40 #[.slice A0 l0.length c0] w fun e w' => e = .returned (.int .i64 r) ∧ Below w.heap.size w w' := by
 have HR0 := Aside0.mk hr0
 have HC0 := Aside0.mk hc0
 clear hr0 hc0
 have HB := Aside0.mk (Below.refl w.heap.size w)
 have H : (lines_Longest.l0 k 0 l0 (l0.length : Int) 0) = some r := h
 clear h
 have H' := Aside0.mk H
 clear H
 go_enter Try.func40, Try.ntmps40
 go_wp2
 go_loopg [3, 10] k (fun kq v3 v10 w' => ∃ (x3_1 : Int) (x10_1 : Int), v3 = .int .i64 x3_1 ∧ v10 = .int .i64 x10_1 ∧ Aside0 (lines_Longest.l0 kq x3_1 l0 (l0.length : Int) x10_1 = some r) ∧ Aside0 (kq ≤ k) ∧ Aside0 (Below w.heap.size w w'))
 case atStart => exact ⟨(0), (0), (by first | rfl | (simp; done) | (simp [*]; done)), (by first | rfl | (simp; done) | (simp [*]; done)), H', ⟨Nat.le_refl _⟩, ⟨by repeat (first | (with_reducible first | exact HB.out | apply below_alloc | apply pw_below_drewN | apply below_drew1) | exact HB.out)⟩⟩
 case round =>
  clear H'
  obtain ⟨x3_1, x10_1, rfl, rfl, HA, HK1, HB⟩ := hrel
  cases gk with
  | zero => exact absurd HA.out (by simp [lines_Longest.l0])
  | succ k1 =>
   have H := HA.out
   clear HA
   simp only [lines_Longest.l0] at H
   by_cases c2 : x10_1 < (l0.length : Int)
   ·rw [if_pos c2] at H
    have c2b0 : decide (x10_1 < (l0.length : Int)) = true := decide_eq_true c2
    clear c2
    by_cases c3 : 0 ≤ x10_1
    ·rw [if_pos c3] at H
     have c3b0 : decide (0 ≤ x10_1) = true := decide_eq_true c3
     clear c3
     by_cases c4 : x10_1 < (l0.length : Int)
     ·rw [if_pos c4] at H
      have c4b0 : decide (x10_1 < (l0.length : Int)) = true := decide_eq_true c4
      clear c4
      have H' := Aside0.mk H
      clear H
      have p101 : 0 ≤ (x10_1 : Int) := of_decide_eq_true (by first | (with_reducible assumption) | assumption)
      have q101 : x10_1 < (l0.length : Int) := of_decide_eq_true (by first | (with_reducible assumption) | assumption)
      obtain ⟨ad101, A101_0, c101_0, e101, hx101_0, hl101_0, hi101_0⟩ := at_L1 HR0.out x10_1 p101 q101
      cases e101
      replace hx101_0 := (HB.out.cell (World.block_lt_of_cell? w _ hx101_0)).trans hx101_0
      have HR101_0 := Aside0.mk hi101_0
      have HC101_0 := Aside0.mk hl101_0
      clear hi101_0 hl101_0
      replace p101 := eq_true p101
      replace q101 := eq_true q101
      go_wp2
      go_loopg [3, 16] k1 (fun kq v3 v16 w' => ∃ (x3_2 : Int) (x16_2 : Int), v3 = .int .i64 x3_2 ∧ v16 = .int .i64 x16_2 ∧ Aside0 (lines_Longest.l1 kq x3_2 l0 (l0.length : Int) x10_1 (rd_L1 l0 x10_1) ((rd_L1 l0 x10_1).length : Int) x16_2 = some r) ∧ Aside0 (kq ≤ k1) ∧ Aside0 (Below w.heap.size w w'))
      case atStart => exact ⟨(x3_1), (0), (by first | rfl | (simp; done) | (simp [*]; done)), (by first | rfl | (simp; done) | (simp [*]; done)), H', ⟨Nat.le_refl _⟩, ⟨by repeat (first | (with_reducible first | exact HB.out | apply below_alloc | apply pw_below_drewN | apply below_drew1) | exact HB.out)⟩⟩
      case round =>
       clear H'
       try clear c1
       try clear p1
       try clear q1
       try clear hx1
       try clear c2
       try clear c2b0
       try clear p2
       try clear c3
       try clear c3b0
       try clear c4
       try clear c4b0
       try clear hx101_0
       try clear p101
       try clear q101
       obtain ⟨x3_2, x16_2, rfl, rfl, HA, HK2, HB⟩ := hrel
       cases gk with
       | zero => exact absurd HA.out (by simp [lines_Longest.l1])
       | succ k2 =>
        have H := HA.out
        clear HA
        simp only [lines_Longest.l1] at H
        by_cases c5 : x16_2 < ((rd_L1 l0 x10_1).length : Int)
        ·rw [if_pos c5] at H
         have c5b0 : decide (x16_2 < ((rd_L1 l0 x10_1).length : Int)) = true := decide_eq_true c5
         clear c5
         by_cases c6 : 0 ≤ x16_2
         ·rw [if_pos c6] at H
          have c6b0 : decide (0 ≤ x16_2) = true := decide_eq_true c6
          clear c6
          by_cases c7 : x16_2 < ((rd_L1 l0 x10_1).length : Int)
          ·rw [if_pos c7] at H
           have c7b0 : decide (x16_2 < ((rd_L1 l0 x10_1).length : Int)) = true := decide_eq_true c7
           clear c7
           replace H := Option.bind_eq_some_iff.mp H
           obtain ⟨t103, A80, H⟩ := H
           replace H : (lines_Longest.l1 k2 (mx x3_2 t103) l0 (l0.length : Int) x10_1 (rd_L1 l0 x10_1) ((rd_L1 l0 x10_1).length : Int) (wrap64 (x16_2 + 1))) = some r := H
           have A8 := Aside0.mk A80
           clear A80
           obtain ⟨ji9, hji9⟩ : ∃ j_ : Int, (mx x3_2 t103) = j_ := ⟨_, rfl⟩
           replace H : (lines_Longest.l1 k2 ji9 l0 (l0.length : Int) x10_1 (rd_L1 l0 x10_1) ((rd_L1 l0 x10_1).length : Int) (wrap64 (x16_2 + 1))) = some r := by first | (rw [hji9] at H; exact H) | (simp only [hji9] at H ⊢; exact H)
           (try rw [hji9] at A8)
           have hji9_ : (if x3_2 < t103 then t103 else x3_2) = ji9 := hji9
           have H' := Aside0.mk H
           clear H
           have p102 : 0 ≤ (x16_2 : Int) := of_decide_eq_true (by first | (with_reducible assumption) | assumption)
           have q102 : x16_2 < ((rd_L1 l0 x10_1).length : Int) := of_decide_eq_true (by first | (with_reducible assumption) | assumption)
           obtain ⟨ad102, e102, hx102_0⟩ := Kd.at_string HR101_0.out x16_2 p102 q102
           cases e102
           replace hx102_0 := (HB.out.cell (World.block_lt_of_cell? w _ hx102_0)).trans hx102_0
           replace p102 := eq_true p102
           replace q102 := eq_true q102
           go_wp2_with (first | ((with_reducible refine gate_callee (f := 43) rfl ?_); refine goesL_ (some 22) rfl rfl Try.func43 (by kernel_rfl) rfl #[.string (rdOf ByteArray.empty (rd_L1 l0 x10_1) x16_2)] rfl (by (try simp only [List.map_toArray, List.map_cons, List.map_nil]); first | done | rfl | (simp only [List.length_drop, List.length_take]; rfl)) ?_; (with_reducible refine (lines_Run.calls (rdOf ByteArray.empty (rd_L1 l0 x10_1) x16_2) t103 _ A8.out).mono ?_); rintro e w10 ⟨rfl, hb⟩; refine ⟨_, rfl, ?_⟩; have n0_ := Aside0.mk (below_step (by repeat (first | (with_reducible first | exact HB.out | apply below_alloc | apply pw_below_drewN | apply below_drew1) | exact HB.out)) hb); clear HB; have HB := n0_; clear n0_; (try clear hb); (try clear hb2); (try clear hk); (try clear hi)))
           go_roundg k2
           case measure => have := HK1.out; have := HK2.out; omega
           case rel => exact ⟨(ji9), (wrap64 (x16_2 + 1)), (by first | rfl | (simp; done) | (simp only [← hji9] <;> (first | rfl | simp)) | (simp [*]; done)), (by first | rfl | (simp; done) | (simp [*]; done)), H', ⟨by have := HK1.out; have := HK2.out; omega⟩, ⟨by repeat (first | (with_reducible first | exact HB.out | apply below_alloc | apply pw_below_drewN | apply below_drew1) | exact HB.out)⟩⟩
          ·rw [if_neg c7] at H
           exact absurd H (by simp)
         ·rw [if_neg c6] at H
          exact absurd H (by simp)
        ·rw [if_neg c5] at H
         have c5b0 : decide (x16_2 < ((rd_L1 l0 x10_1).length : Int)) = false := decide_eq_false c5
         clear c5
         have H' := Aside0.mk H
         clear H
         go_wp2
         go_roundg k2
         case measure => have := HK1.out; have := HK2.out; omega
         case rel => exact ⟨(x3_2), (wrap64 (x10_1 + 1)), (by first | rfl | (simp; done) | (simp [*]; done)), (by first | rfl | (simp; done) | (simp [*]; done)), H', ⟨by have := HK1.out; have := HK2.out; omega⟩, ⟨by repeat (first | (with_reducible first | exact HB.out | apply below_alloc | apply pw_below_drewN | apply below_drew1) | exact HB.out)⟩⟩
     ·rw [if_neg c4] at H
      exact absurd H (by simp)
    ·rw [if_neg c3] at H
     exact absurd H (by simp)
   ·rw [if_neg c2] at H
    have c2b0 : decide (x10_1 < (l0.length : Int)) = false := decide_eq_false c2
    clear c2
    obtain rfl := Option.some.inj H
    go_wp2
    go_ret
    exact ⟨by first | rfl | (simp [errW_none, errW_some] <;> rfl) | (simp [*, errW_none, errW_some] <;> rfl), by repeat (first | (with_reducible first | exact HB.out | apply below_alloc | apply pw_below_drewN | apply below_drew1) | exact HB.out)⟩
def lines_Split.f (a0 : ByteArray) : Option (List ByteArray) := if a0.size ≤ 4000000000 then some (splitB a0) else none
theorem lines_Split.calls (a0 : ByteArray) (r : List ByteArray) (w : World) (h : lines_Split.f a0 = some r) :
  Calls Try.prog 29 #[.string a0] w fun e w' => ∃ v0_ : Value, e = .returned (v0_) ∧ Kd.R Kd.string 9 w' w.heap.size (fun _ => True) v0_ r ∧ Below w.heap.size w w' := by
 exact ext_split a0 r w h
end Go.Proofs.Ytfiamddinkokbaa.F
end
