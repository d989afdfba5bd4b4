/- Texts joined into one file (wip/tools/pack.py): Builder, Fn84, May, LineA, LineB, Fn142, Fn115 -/
import Derived.Test.YtfiamddinkokbaaPB1
import Derived.Shelf.RegionOpenPlain
import Derived.Lib.Strings
import Derived.Lib.Slices
import Derived.Lib.Walk
import Derived.Lib.Builder
import Derived.Lib.AppendStr
import Derived.Lib.FrozenHead
import Derived.Lib.UnsafeStr
import Derived.Lib.MakeNoZero
import Derived.WalkKit
import Derived.Laws.Externs
import Derived.Laws.IdiomCopy
import Derived.Laws.BitsLemmas
import Derived.Shelf.Abstract
import Derived.Test.YtfiamddinkokbaaProg
import Derived.Test.YtfiamddinkokbaaPB3
import Derived.Test.YtfiamddinkokbaaPB2
set_option linter.unusedVariables false
set_option linter.unusedSimpArgs false
section
namespace Go.Proofs.Ytfiamddinkokbaa
open Go.RowKit Go.Lib
set_option maxHeartbeats 2000000 in
set_option maxRecDepth 100000 in
theorem bld_used (b o : Nat) (w : World) (h0 : w.cell? ⟨b, o, none⟩ = some (.pointer (some ⟨b, o, none⟩))) :
  Calls Try.prog 123 #[.pointer (some ⟨b, o, none⟩)] w fun e w' => e = .returned (.tuple #[]) ∧ w' = w := by
 obtain ⟨j, hj, _⟩ := Option.map_eq_some_iff.1 (show (Try.prog.info? 127).map (·.size) = some 2 by kernel_rfl)
 have hu := Try.underlying124
 have hu2 := Try.underlying127
 go_enter Try.func123, Try.ntmps123
 go_wp2
 rw [Lib.run_neq_ptr_same w _ hu hj]
 go_wp2
 go_end0
 exact ⟨rfl, rfl⟩
set_option maxHeartbeats 2000000 in
set_option maxRecDepth 100000 in
theorem bld_fresh (b o : Nat) (T : TypeId) (n : Nat) (w : World) (h0 : w.cell? ⟨b, o, none⟩ = some (.pointer none)) (hsh : w.shape? b = some (T, n)) (hon : o < n) (hfz : w.frozen? ⟨b, o, none⟩ = false)
  (hlies : liesAt Try.prog Try.prog.depth T (n / Try.prog.cellsOf T) o 127 1 = true) :
  Calls Try.prog 123 #[.pointer (some ⟨b, o, none⟩)] w fun e w' => e = .returned (.tuple #[]) ∧ w' = w.setCell ⟨b, o, none⟩ (.pointer (some ⟨b, o, none⟩)) := by
 obtain ⟨j, hj, hjs⟩ := Option.map_eq_some_iff.1 (show (Try.prog.info? 127).map (·.size) = some 2 by kernel_rfl)
 have hu := Try.underlying124
 have hu2 := Try.underlying127
 have hu3 := Try.underlying184
 go_enter Try.func123, Try.ntmps123
 go_wp2
 rw [Lib.run_to_unsafe w ⟨b, o, none⟩ hu hu3 hj (by rw [hjs]; decide) hsh hon]
 simp only [Result.andThen]
 rw [Oper.upon_value]
 try rw [Oper.upon_value]
 go_wp2
 rw [run_callFunc_extern Try.func149 (by kernel_rfl) (by kernel_rfl) (by kernel_rfl) (e := Extern.AbiNoEscape.same) (by kernel_rfl)]
 rw [Lib.run_noEscape]
 simp only [Result.andThen]
 rw [Oper.upon_value]
 go_wp2
 rw [Lib.run_from_unsafe w ⟨b, o, none⟩ hu3 hu hj hsh hlies]
 simp only [Result.andThen]
 rw [Oper.upon_value]
 go_wp2
 go_end0
 exact ⟨rfl, rfl⟩
structure BldAt (T : TypeId) (o : Nat) (B b : Nat) (cs : Array Value) (p v : Value) (bs : List UInt8) (w : World) : Prop where
 lo : B ≤ b
 blk : w.heap[b]? = some (.cells cs T (0, 0))
 at0 : cs[o]? = some p
 at1 : cs[o + 1]? = some v
 ptr : p = .pointer none ∨ p = .pointer (some ⟨b, o, none⟩)
 own : w.ownsRowF B 5 1 v bs.length (Lib.byteCells bs)
 ne : v.ownBlock ≠ some b
theorem BldAt.lt {T : TypeId} {o B b : Nat} {cs : Array Value} {p v : Value} {bs : List UInt8} {w : World} (h : BldAt T o B b cs p v bs w) : b < w.heap.size := (Array.getElem?_eq_some_iff.1 h.blk).1
theorem ownF_move {w w1 : World} {base : Nat} {e : TypeId} {size n : Nat} {v : Value} {xs : List Value} (h : w.ownsRowF base e size v n xs) (hm : ∀ k, v.ownBlock = some k → w1.heap[k]? = w.heap[k]?) : w1.ownsRowF base e size v n xs := by
 refine ⟨h.1, ?_⟩
 rcases h.2 with hn | ⟨g, cap, cur, fz, rfl, hb, hg, rest⟩
 ·exact .inl hn
 ·exact .inr ⟨g, cap, cur, fz, rfl, hb, (hm g rfl).trans hg, rest⟩
theorem ownF_typed {w : World} {base : Nat} {e : TypeId} {size n : Nat} {v : Value} {xs : List Value} (h : w.ownsRowF base e size v n xs) (k : Nat) (hk : v.ownBlock = some k) : ∃ cells fz, w.heap[k]? = some (.cells cells e fz) := by
 rcases h.2 with ⟨rfl, _⟩ | ⟨g, cap, cur, fz, rfl, hb, hg, rest⟩
 ·simp [Value.ownBlock] at hk
 ·simp [Value.ownBlock] at hk
  subst hk; exact ⟨cur, fz, hg⟩
theorem BldAt.move {T : TypeId} {o B b : Nat} {cs : Array Value} {p v : Value} {bs : List UInt8} {w w' : World} (h : BldAt T o B b cs p v bs w) (hb : w'.heap[b]? = w.heap[b]?) (hm : ∀ k, v.ownBlock = some k → w'.heap[k]? = w.heap[k]?) : BldAt T o B b cs p v bs w' :=
 ⟨h.lo, hb.trans h.blk, h.at0, h.at1, h.ptr, ownF_move h.own hm, h.ne⟩
theorem BldAt.freeze {T : TypeId} {o B b : Nat} {cs : Array Value} {p v : Value} {bs : List UInt8} {w : World} (h : BldAt T o B b cs p v bs w) {g cap : Nat} (hv : v = .slice (some ⟨g, 0, none⟩) bs.length cap) : BldAt T o B b cs p v bs (w.freeze ⟨g, 0, none⟩ bs.length) := by
 have hgb : g ≠ b := fun e => h.ne (by rw [hv, e]; rfl)
 rcases h.own.2 with ⟨hv2, _⟩ | ⟨g2, cap2, cur, fz, hv2, hb, hg, hfz, rest⟩
 ·rw [hv] at hv2; cases hv2
 ·have e : (⟨g, 0, none⟩ : Addr) = ⟨g2, 0, none⟩ := by
   rw [hv] at hv2
   injection hv2 with e1 e2 e3
   exact Option.some.inj e1
  obtain rfl : g = g2 := congrArg Addr.block e
  have hne2 : v.ownBlock = some g := by rw [hv]; rfl
  by_cases h0 : bs.length = 0
  ·have : w.freeze ⟨g, 0, none⟩ bs.length = w := by unfold World.freeze; rw [if_pos h0]
   rw [this]; exact h
  ·refine ⟨h.lo, ?_, h.at0, h.at1, h.ptr, ⟨h.own.1, .inr ⟨g, cap2, cur, (if (fz.1 == fz.2) = true then (0, 0 + bs.length) else (min fz.1 0, max fz.2 (0 + bs.length))), hv2, hb, ?_, ?_, rest⟩⟩, h.ne⟩
   ·unfold World.freeze
    rw [if_neg h0]
    simp [Array.getElem?_modify, hgb, h.blk]
   ·unfold World.freeze
    rw [if_neg h0]
    simp [Array.getElem?_modify, hg]
   ·split
    ·show 0 + bs.length ≤ _; omega
    ·show max fz.2 (0 + bs.length) ≤ _; omega
theorem bld_check {T : TypeId} {o B b : Nat} {cs : Array Value} {p v : Value} {bs : List UInt8} {w : World} (h : BldAt T o B b cs p v bs w)
  (hlies : liesAt Try.prog Try.prog.depth T (cs.size / Try.prog.cellsOf T) o 127 1 = true) :
  Calls Try.prog 123 #[.pointer (some ⟨b, o, none⟩)] w fun e w' => e = .returned (.tuple #[]) ∧
   BldAt T o B b (cs.setIfInBounds o (.pointer (some ⟨b, o, none⟩))) (.pointer (some ⟨b, o, none⟩)) v bs w' ∧ Below B w w' ∧ w'.heap.size = w.heap.size ∧ (∀ k, k ≠ b → w'.heap[k]? = w.heap[k]?) := by
 have ho : o < cs.size := (Array.getElem?_eq_some_iff.1 h.at0).1
 have hcell : w.cell? ⟨b, o, none⟩ = some p := (Lib.cell_of_heap h.blk o).trans h.at0
 have hc1 : (cs.setIfInBounds o (.pointer (some ⟨b, o, none⟩)))[o]? = some (.pointer (some ⟨b, o, none⟩)) := by
  rw [Array.getElem?_setIfInBounds_self]; simp [ho]
 have hc2 : (cs.setIfInBounds o (.pointer (some ⟨b, o, none⟩)))[o + 1]? = some v := by
  rw [Array.getElem?_setIfInBounds_ne (by omega)]; exact h.at1
 rcases h.ptr with hp | hp
 ·rw [hp] at hcell
  refine (bld_fresh b o T cs.size w hcell (by simp [World.shape?, h.blk]) ho (Lib.frozen_of_heap h.blk o) hlies).mono ?_
  rintro e w' ⟨rfl, rfl⟩
  have hb' : (w.setCell ⟨b, o, none⟩ (.pointer (some ⟨b, o, none⟩))).heap[b]? = some (.cells (cs.setIfInBounds o (.pointer (some ⟨b, o, none⟩))) T (0, 0)) := by
   simp [World.setCell, Array.getElem?_modify, h.blk]
  refine ⟨rfl, ⟨h.lo, hb', hc1, hc2, .inr rfl, ?_, h.ne⟩, (Below.refl B w).setCell (p := ⟨b, o, none⟩) h.lo _, by simp [World.setCell], fun k hk => Below.heap_setCell _ _ _ _ hk⟩
  exact h.own.kept (row := some b) ⟨rfl, rfl, rfl, by simp [World.setCell], fun k _ hk => Below.heap_setCell _ _ _ _ (fun e => hk (by simp [e]))⟩ (Or.inr h.ne)
 ·rw [hp] at hcell
  refine (bld_used b o w hcell).mono ?_
  rintro e w' ⟨rfl, rfl⟩
  have hid : cs.setIfInBounds o (.pointer (some ⟨b, o, none⟩)) = cs := by
   apply Array.ext_getElem?
   intro i
   by_cases hi : i = o
   ·subst hi; rw [hc1, h.at0, hp]
   ·rw [Array.getElem?_setIfInBounds_ne (by omega)]
  rw [hid]
  exact ⟨rfl, ⟨h.lo, h.blk, hp ▸ h.at0, h.at1, .inr rfl, h.own, h.ne⟩, Below.refl B _, rfl, fun k _ => rfl⟩
theorem byteCells_append (a b : List UInt8) : Lib.byteCells (a ++ b) = Lib.byteCells a ++ Lib.byteCells b := by simp [Lib.byteCells]
set_option maxHeartbeats 4000000 in
set_option maxRecDepth 100000 in
theorem bld_write {T : TypeId} {o B b : Nat} {cs : Array Value} {p v : Value} {bs : List UInt8} {w : World} (s : ByteArray) (h : BldAt T o B b cs p v bs w)
  (hlies : liesAt Try.prog Try.prog.depth T (cs.size / Try.prog.cellsOf T) o 127 1 = true) (hT : T ≠ 5) (hlen : bs.length + s.size ≤ 140737488355328) (hBw : B ≤ w.heap.size) :
  Calls Try.prog 87 #[.pointer (some ⟨b, o, none⟩), .string s] w fun e w' => e = .returned (.tuple #[.int .i64 s.size, .nilIface]) ∧
   ∃ v', BldAt T o B b ((cs.setIfInBounds o (.pointer (some ⟨b, o, none⟩))).setIfInBounds (o + 1) v') (.pointer (some ⟨b, o, none⟩)) v' (bs ++ s.data.toList) w' ∧ Below B w w' ∧
    (∀ k, k < w.heap.size → k ≠ b → some k ≠ v.ownBlock → w'.heap[k]? = w.heap[k]?) := by
 have hu := Try.underlying124
 have hu2 := Try.underlying127
 have hu3 := Try.underlying125
 have hu4 := Try.underlying9
 obtain ⟨i0, hi, hz0, hz1, hz2⟩ := info_parts (show (Try.prog.info? 5).map (fun i => (i.zero, i.size, i.bytes)) = some (some (.int .u8 0), 1, 1) by kernel_rfl)
 have hcon := bld_check h hlies
 have ho : o < cs.size := (Array.getElem?_eq_some_iff.1 h.at0).1
 have ho1 : o + 1 < cs.size := (Array.getElem?_eq_some_iff.1 h.at1).1
 generalize hcs : cs.setIfInBounds o (.pointer (some ⟨b, o, none⟩)) = cs1 at hcon ⊢
 have hs1 : cs1.size = cs.size := by rw [← hcs]; simp
 clear hcs
 go_enter Try.func87, Try.ntmps87
 go_wp2_with (go_at_call 123; refine hcon.mono ?_)
 rintro e w1 ⟨rfl, h1, hb1, hz, hk1⟩
 have c1 : w1.cell? ⟨b, o + 1, none⟩ = some v := (Lib.cell_of_heap h1.blk _).trans h1.at1
 have hcl : (Lib.byteCells bs).length = bs.length := Lib.byteCells_length bs
 have hown := h1.own
 go_wp2_with (at_builtin; refine Lib.wpList_append_own_stringF _ rfl _ _ 125 9 rfl B 5 i0 hu3 hu4 hi hz0 hz1 hz2 _ _ _ rfl hown s rfl ?c3 ?c4 ?c5 ?_)
 case c3 => unfold maxLen; omega
 case c4 => omega
 case c5 => have := hb1.size; omega
 intro v' w2 hown' hgrow _
 have hb2 : w2.heap[b]? = some (.cells cs1 T (0, 0)) := by
  rw [hgrow.block b h1.lt (fun e => h1.ne e.symm)]
  exact h1.blk
 have d1 : w2.cell? ⟨b, o + 1, none⟩ = some v := (Lib.cell_of_heap hb2 _).trans h1.at1
 have f1 : w2.frozen? ⟨b, o + 1, none⟩ = false := Lib.frozen_of_heap hb2 (o + 1)
 obtain ⟨ao, n', cap, rfl⟩ : ∃ ao n' cap, v' = .slice ao n' cap := by
  rcases hown'.2 with ⟨hv, _⟩ | ⟨g, cap, cur, fz, hv, _⟩
  ·exact ⟨_, _, _, hv⟩
  ·exact ⟨_, _, _, hv⟩
 go_wp2
 go_ret2
 have hlen2 : (bs ++ s.data.toList).length = bs.length + s.size := by rw [List.length_append, Array.length_toList]; rfl
 have hcells : Lib.byteCells (bs ++ s.data.toList) = Lib.byteCells bs ++ Lib.strCells s := by rw [byteCells_append]; rfl
 have hne : (Value.slice ao n' cap).ownBlock ≠ some b := Lib.ownBlock_neF hown' hb2 hT
 refine ⟨rfl, _, ⟨h.lo, ?_, ?_, ?_, .inr rfl, ?_, hne⟩, (hb1.grown hgrow (by have := hb1.size; omega) (fun k hk => (hown.lt k hk).1)).setCell (p := ⟨b, o + 1, none⟩) h.lo _, ?_⟩
 ·simp [World.setCell, Array.getElem?_modify, hb2]
 ·rw [Array.getElem?_setIfInBounds_ne (by omega)]; exact h1.at0
 ·rw [Array.getElem?_setIfInBounds_self]; simp [hs1, ho1]
 ·rw [hlen2, hcells]
  exact hown'.kept (row := some b) ⟨rfl, rfl, rfl, by simp [World.setCell], fun k _ hk => Below.heap_setCell _ _ _ _ (fun e => hk (by simp [e]))⟩ (Or.inr hne)
 ·intro k hk hkb hkv
  rw [Below.heap_setCell _ _ _ _ hkb, hgrow.block k (by omega) hkv, hk1 k hkb]
theorem bld_freeze_old (w : World) (g k n : Nat) (h : k ≠ g) : (w.freeze ⟨g, 0, none⟩ n).heap[k]? = w.heap[k]? := by
 unfold World.freeze
 split
 ·rfl
 ·simp [Array.getElem?_modify, Ne.symm h]
theorem bld_unsafeNone (W : World) (q : Option Addr) : (Builtin.unsafeString_ #[165, 3] 9 #[.pointer q, .int .i64 0]).run Try.prog W = .ok (.string .empty) W := Lib.run_unsafeString_none W _ _ _ q
set_option maxHeartbeats 4000000 in
set_option maxRecDepth 100000 in
theorem bld_string {T : TypeId} {o B b : Nat} {cs : Array Value} {p v : Value} {bs : List UInt8} {w : World} (h : BldAt T o B b cs p v bs w) (hBw : B ≤ w.heap.size) :
  Calls Try.prog 89 #[.pointer (some ⟨b, o, none⟩)] w fun e w' => e = .returned (.string (toB bs)) ∧ Below B w w' ∧ (∀ k, k < w.heap.size → some k ≠ v.ownBlock → w'.heap[k]? = w.heap[k]?) ∧ BldAt T o B b cs p v bs w' := by
 have hu := Try.underlying124
 have hu2 := Try.underlying127
 have hu3 := Try.underlying125
 have hu4 := Try.underlying165
 have hlt := h.lt
 have hUS := bld_unsafeNone
 have mixed : Try.prog.follows .mixedOrders = true := by kernel_rfl
 have HA := PLift.up h
 rcases h.own.2 with ⟨hv, hz⟩ | ⟨g, cap, cur, fz, hv, hbg, hg, hfz, hnc, hcm, hcs, htake⟩
 ·subst hv
  have hbs : bs = [] := List.length_eq_zero_iff.1 hz
  subst hbs
  have c1 : w.drew.cell? ⟨b, o + 1, none⟩ = some (.slice none 0 0) := (Lib.cell_of_heap (show w.drew.heap[b]? = some (.cells cs T (0, 0)) from h.blk) _).trans h.at1
  have hSD : (Builtin.unsafeSliceData_ #[125] 165 #[.slice none 0 0]).run Try.prog w.drew = .ok (.pointer none) w.drew := rfl
  clear h
  go_enter Try.func89, Try.ntmps89
  go_wp2
  go_region_o
  all_goals (go_wp2; go_ret; exact ⟨rfl, Below.drew (Below.refl B w), fun _ _ _ => rfl, HA.down.move rfl (fun _ _ => rfl)⟩)
 ·subst hv
  by_cases h0 : bs = []
  ·subst h0
   by_cases hc0 : cap = 0
   ·subst hc0
    have c1 : w.drew.cell? ⟨b, o + 1, none⟩ = some (.slice (some ⟨g, 0, none⟩) 0 0) := (Lib.cell_of_heap (show w.drew.heap[b]? = some (.cells cs T (0, 0)) from h.blk) _).trans h.at1
    have hSD : (Builtin.unsafeSliceData_ #[125] 165 #[.slice (some ⟨g, 0, none⟩) 0 0]).run Try.prog w.drew = .ok (.pointer (some ⟨w.drew.heap.size, 0, none⟩)) (w.drew.alloc (.view ⟨g, 0, none⟩ 5)) :=
     Lib.run_unsafeSliceData_zero w.drew _ _ 5 hu4 ⟨g, 0, none⟩ 0 (5, cur.size) (by have hg' : w.drew.heap[g]? = some (.cells cur 5 fz) := hg; simp [World.shape?, hg'])
    have c2 : (w.drew.alloc (.view ⟨g, 0, none⟩ 5)).cell? ⟨b, o + 1, none⟩ = some (.slice (some ⟨g, 0, none⟩) 0 0) := (Lib.cell_of_heap (show (w.drew.alloc (.view ⟨g, 0, none⟩ 5)).heap[b]? = some (.cells cs T (0, 0)) from (Lib.alloc_old w.drew _ b hlt).trans h.blk) _).trans h.at1
    have c3 : (w.alloc (.view ⟨g, 0, none⟩ 5)).drew.cell? ⟨b, o + 1, none⟩ = some (.slice (some ⟨g, 0, none⟩) 0 0) := c2
    have c0 : w.cell? ⟨b, o + 1, none⟩ = some (.slice (some ⟨g, 0, none⟩) 0 0) := c1
    clear h
    go_enter Try.func89, Try.ntmps89
    go_wp2
    go_region_o
    all_goals (go_wp2; go_ret; exact ⟨rfl, (Below.drew (Below.refl B w)).alloc hBw _, fun k hk _ => Lib.alloc_old w _ k hk, HA.down.move (Lib.alloc_old w _ b HA.down.lt) (fun k hk => Lib.alloc_old w _ k (HA.down.own.lt k hk).2)⟩)
   ·have c1 : w.drew.cell? ⟨b, o + 1, none⟩ = some (.slice (some ⟨g, 0, none⟩) 0 cap) := (Lib.cell_of_heap (show w.drew.heap[b]? = some (.cells cs T (0, 0)) from h.blk) _).trans h.at1
    have hSD : (Builtin.unsafeSliceData_ #[125] 165 #[.slice (some ⟨g, 0, none⟩) 0 cap]).run Try.prog w.drew = .ok (.pointer (some ⟨g, 0, none⟩)) w.drew :=
     Lib.run_unsafeSliceData_row _ _ _ _ _ _ hc0
    clear h hc0
    go_enter Try.func89, Try.ntmps89
    go_wp2
    go_region_o
    all_goals (go_wp2; go_ret; exact ⟨rfl, Below.drew (Below.refl B w), fun _ _ _ => rfl, HA.down.move rfl (fun _ _ => rfl)⟩)
  ·have hl0 : bs.length ≠ 0 := by simpa using h0
   have c1 : w.drew.cell? ⟨b, o + 1, none⟩ = some (.slice (some ⟨g, 0, none⟩) bs.length cap) := (Lib.cell_of_heap (show w.drew.heap[b]? = some (.cells cs T (0, 0)) from h.blk) _).trans h.at1
   have hSD : (Builtin.unsafeSliceData_ #[125] 165 #[.slice (some ⟨g, 0, none⟩) bs.length cap]).run Try.prog w.drew = .ok (.pointer (some ⟨g, 0, none⟩)) w.drew :=
    Lib.run_unsafeSliceData_row _ _ _ _ _ _ (by omega)
   have hown := h.own
   have hUS2 : (Builtin.unsafeString_ #[165, 3] 9 #[.pointer (some ⟨g, 0, none⟩), .int .i64 bs.length]).run Try.prog w.drew = .ok (.string (toB bs)) (w.drew.freeze ⟨g, 0, none⟩ bs.length) := by
    refine Lib.run_unsafeString_row w.drew 165 3 9 5 hu4 (by kernel_rfl) g cur.size (by have hg' : w.drew.heap[g]? = some (.cells cur 5 fz) := hg; simp [World.shape?, hg']) bs h0 (by omega) (by unfold maxLen at hcm; omega) ?_
    intro j x hx
    have := hown.cells (g := g) rfl j (.int .u8 x.toNat) (by simp [Lib.byteCells, hx])
    exact this
   clear hUS
   go_enter Try.func89, Try.ntmps89
   go_wp2
   go_region_o
   all_goals (go_wp2; go_ret; refine ⟨rfl, Lib.below_freeze (Below.drew (Below.refl B w)) (p := ⟨g, 0, none⟩) hbg _, fun k _ hk => ?_, BldAt.freeze (w := w.drew) (HA.down.move rfl (fun _ _ => rfl)) rfl⟩)
   all_goals exact bld_freeze_old w.drew g k bs.length (fun e => hk (by simp [Value.ownBlock, e]))
end Go.Proofs.Ytfiamddinkokbaa
end

section
namespace Go.Proofs.Ytfiamddinkokbaa.F
open Go.RowKit Go.Proofs.YtfiamddinkokbaaW.PrintWords Go.Proofs.YtfiamddinkokbaaW.PrintLast Go.Proofs.YtfiamddinkokbaaW.PrintMore
attribute [local go_sem] max2_int min2_int max_two min_two max_three min_three max_four min_four
def strings_Contains.f (a0 a1 : ByteArray) : Option Bool := if a1.size = 1 then some (decide (0 ≤ Lib.indexByte a0.data.toList (a1.data.toList.headD 0))) else none
theorem strings_Contains.calls (a0 : ByteArray) (a1 : ByteArray) (r : Bool) (w : World) (h : strings_Contains.f a0 a1 = some r) :
  Calls Try.prog 84 #[.string a0, .string a1] w fun e w' => e = .returned (.bool r) ∧ Drawn0 w w' := by
 exact ext_contains a0 a1 r w h
end Go.Proofs.Ytfiamddinkokbaa.F
end

section
namespace Go.Proofs.Ytfiamddinkokbaa.F
open Go.RowKit Go.Shelf Go.Proofs.YtfiamddinkokbaaW.PrintWords
def signI (k : Int) : Bool := k == 60 || (k == 124 || (k == 61 || k == 62))
def lineless (s : ByteArray) : Bool := decide (0 ≤ Lib.indexByte s.data.toList 10)
def mayB (k : Int) (fl : Bool) (lb : ByteArray) : Bool := signI k && (!lineless lb && ((k != 60 || !fl) && (k != 61 || lb.toList.isEmpty)))
theorem new_cell0 (W : World) (cs : Array Value) (t : TypeId) (i : Nat) (v : Value) (h : cs[i]? = some v) : (W.alloc (.cells cs t)).cell? ⟨W.heap.size, i, none⟩ = some v := (blk_cell (World.alloc_heap_new W _) i).trans h
theorem tr0 {W W' : World} {p : Addr} {v : Value} (hb : Below W.heap.size W W') (h : W.cell? p = some v) : W'.cell? p = some v := (hb.cell (World.block_lt_of_cell? W _ h)).trans h
theorem encode_small : ∀ n : _root_.Fin 128, Utf8.encode ((n.val : Nat) : Int) = ⟨#[UInt8.ofNat n.val]⟩ := by decide +kernel
theorem sign_small : ∀ n : _root_.Fin 128, isSign (UInt8.ofNat n.val) = signI ((n.val : Nat) : Int) := by decide +kernel
theorem may_sign (n : Nat) (h : n < 128) (W : World) : Calls Try.prog 84 #[.string ⟨#[60, 124, 61, 62]⟩, .string (Utf8.encode (n : Int))] W fun e w' => e = .returned (.bool (signI n)) ∧ Below W.heap.size W w' := by
 have e1 := encode_small ⟨n, h⟩
 have e2 := sign_small ⟨n, h⟩
 simp only at e1 e2
 rw [e1]
 refine (strings_Contains.calls ⟨#[60, 124, 61, 62]⟩ ⟨#[UInt8.ofNat n]⟩ (signI n) W ?_).mono ?_
 ·unfold strings_Contains.f
  rw [if_pos (show (⟨#[UInt8.ofNat n]⟩ : ByteArray).size = 1 from rfl), ← e2, ← sign_index]; rfl
 ·rintro e w' ⟨rfl, d, rfl⟩; exact ⟨rfl, pw_below_drewN (Below.refl _ _) d⟩
theorem may_line (lb : ByteArray) (W : World) : Calls Try.prog 84 #[.string lb, .string ⟨#[10]⟩] W fun e w' => e = .returned (.bool (lineless lb)) ∧ Below W.heap.size W w' := by
 refine (strings_Contains.calls lb ⟨#[10]⟩ (lineless lb) W rfl).mono ?_
 rintro e w' ⟨rfl, d, rfl⟩; exact ⟨rfl, pw_below_drewN (Below.refl _ _) d⟩
set_option maxHeartbeats 8000000 in
set_option maxRecDepth 100000 in
theorem may_calls (k : Int) (fl : Bool) (lb : ByteArray) (w : World) (h0 : 0 ≤ k) (h1 : k < 128) :
  Calls Try.prog 95 #[.agg #[.int .u8 k, .bool fl, .string lb]] w fun e w' => e = .returned (.bool (mayB k fl lb)) ∧ Below w.heap.size w w' := by
 obtain ⟨n, rfl⟩ := Int.eq_ofNat_of_zero_le h0
 have h2 : n < 128 := by omega
 have hs := may_sign n h2
 have hl := may_line lb
 unfold mayB
 clear h2
 generalize hk : (n : Int) = k at *
 have k0 : 0 ≤ k := h0
 clear h0
 generalize hA : signI k = bs at hs ⊢
 generalize hL : lineless lb = bl at hl ⊢
 have HB : Below w.heap.size w (w.alloc (.cells #[.int .u8 k, .bool fl, .string lb] 62)) := below_alloc (Below.refl _ _) _
 have c0 := new_cell0 w #[.int .u8 k, .bool fl, .string lb] 62 0 _ rfl
 have c1 := new_cell0 w #[.int .u8 k, .bool fl, .string lb] 62 1 _ rfl
 have c2 := new_cell0 w #[.int .u8 k, .bool fl, .string lb] 62 2 _ rfl
 go_enter Try.func95, Try.ntmps95
 clear hk n
 go_wp2_with (first
  | (go_at_call_of 84 (Value.string ⟨#[60, 124, 61, 62]⟩); refine (hs _).mono ?_; rintro e w1 ⟨rfl, hb1⟩; replace c0 := tr0 hb1 c0; replace c1 := tr0 hb1 c1; replace c2 := tr0 hb1 c2; replace HB := below_step HB hb1; clear hb1)
  | (go_at_call_of 84 (Value.string lb); refine (hl _).mono ?_; rintro e w1 ⟨rfl, hb1⟩; replace c0 := tr0 hb1 c0; replace c1 := tr0 hb1 c1; replace c2 := tr0 hb1 c2; replace HB := below_step HB hb1; clear hb1))
 all_goals go_ret
 all_goals refine ⟨?_, HB⟩
 all_goals clear hs hl c0 c1 c2 HB
 all_goals simp_all
theorem ln_size_toB (l : List UInt8) : (toB l).size = l.length := by rw [← show (toB l).data.toList.length = (toB l).size from Array.length_toList, data_toB]
theorem ln_bytes_ext {a b : ByteArray} (h : a.data.toList = b.data.toList) : a = b := by rw [← toB_data a, h, toB_data]
theorem ln_toList (s : ByteArray) : s.toList = s.data.toList := ByteArray.toList_eq s
def lineB (k : Int) (fl : Bool) (lb : ByteArray) (width : Int) : ByteArray :=
 toB (List.replicate width.toNat (UInt8.ofNat k.toNat) ++ ((if fl = true then [33] else []) ++ ((if lb.toList.isEmpty = true then [] else 32 :: lb.data.toList) ++ [10])))
theorem repeat_one (c : UInt8) : ∀ n : Nat, Lib.repeatL [c] n = List.replicate n c := by
 intro n
 induction n with
 | zero => rfl
 | succ n ih => simp [Lib.repeatL, ih, List.replicate_succ]
theorem line_repeat (n : Nat) (h : n < 128) (c : Nat) (hc : c ≤ 1073741824) (W : World) :
  Calls Try.prog 129 #[.string (Utf8.encode (n : Int)), .int .i64 c] W fun e w' => e = .returned (.string (toB (List.replicate c (UInt8.ofNat n)))) ∧ Below W.heap.size W w' := by
 have e1 := encode_small ⟨n, h⟩
 simp only at e1
 rw [e1]
 have hs : (⟨#[UInt8.ofNat n]⟩ : ByteArray).size = 1 := rfl
 refine (Try.strings_Repeat ⟨#[UInt8.ofNat n]⟩ c W (by omega) (by rw [hs]; omega)).mono ?_
 rintro e w' ⟨rfl, hb⟩
 refine ⟨?_, hb⟩
 have : Lib.repeatL (⟨#[UInt8.ofNat n]⟩ : ByteArray).data.toList c = List.replicate c (UInt8.ofNat n) := repeat_one _ c
 rw [this]; rfl
set_option maxHeartbeats 8000000 in
set_option maxRecDepth 100000 in
theorem line_calls (k : Int) (fl : Bool) (lb : ByteArray) (width : Int) (w : World) (h0 : 0 ≤ k) (h1 : k < 128) (w0 : 0 ≤ width) (w1 : width ≤ 1073741824) (hl : lb.size ≤ 4000000000) :
  Calls Try.prog 96 #[.agg #[.int .u8 k, .bool fl, .string lb], .int .i64 width] w fun e w' => e = .returned (.string (lineB k fl lb width)) ∧ Below w.heap.size w w' := by
 obtain ⟨n, rfl⟩ := Int.eq_ofNat_of_zero_le h0
 obtain ⟨c, rfl⟩ := Int.eq_ofNat_of_zero_le w0
 have h2 : n < 128 := by omega
 have h3 : c ≤ 1073741824 := by omega
 have hs := line_repeat n h2 c h3
 unfold lineB
 rw [Int.toNat_natCast, Int.toNat_natCast]
 have ht : (toB (List.replicate c (UInt8.ofNat n))).size = c := by rw [ln_size_toB]; simp
 generalize hT : toB (List.replicate c (UInt8.ofNat n)) = t at hs ht
 have hT2 : List.replicate c (UInt8.ofNat n) = t.data.toList := by rw [← hT, data_toB]
 rw [hT2]
 clear hT hT2
 have f1 : (9223372036854775807 < t.size + 1) = False := eq_false (by omega)
 have f2 : (9223372036854775807 < 1 + lb.size) = False := eq_false (by omega)
 have f3 : (9223372036854775807 < t.size + (1 + lb.size)) = False := eq_false (by omega)
 have f4 : (9223372036854775807 < t.size + 1 + (1 + lb.size)) = False := eq_false (by omega)
 have f5 : (9223372036854775807 < t.size + (1 + lb.size) + 1) = False := eq_false (by omega)
 have f6 : (9223372036854775807 < t.size + 1 + (1 + lb.size) + 1) = False := eq_false (by omega)
 have f7 : (9223372036854775807 < t.size + 1 + 1) = False := eq_false (by omega)
 clear h2 h3 w0 w1 hl ht
 generalize hk : (n : Int) = k at *
 generalize hc : (c : Int) = cc at *
 clear hk hc n c
 have HE : Aside0 (lb.toList.isEmpty = true ↔ lb.data.toList = []) := ⟨by rw [List.isEmpty_iff, ln_toList]⟩
 have HB := Aside0.mk (below_alloc (Below.refl w.heap.size w) (.cells #[.int .u8 k, .bool fl, .string lb] 62))
 have c0 := new_cell0 w #[.int .u8 k, .bool fl, .string lb] 62 0 (.int .u8 k) rfl
 have c1 := new_cell0 w #[.int .u8 k, .bool fl, .string lb] 62 1 (.bool fl) rfl
 have c2 := new_cell0 w #[.int .u8 k, .bool fl, .string lb] 62 2 (.string lb) rfl
 go_enter Try.func96, Try.ntmps96
 go_wp2_with (first
  | (go_at_call 129; refine (hs _).mono ?_; rintro e w1 ⟨rfl, hb1⟩; replace c0 := tr0 hb1 c0; replace c1 := tr0 hb1 c1; replace c2 := tr0 hb1 c2; replace HB := Aside0.mk (below_step HB.out hb1); clear hb1 hs))
 all_goals go_ret
 all_goals refine ⟨?_, HB.out⟩
 all_goals first
  | (exfalso; simp_all; done)
  | (refine (?_ : Ending.returned (Value.string _) = Ending.returned (Value.string _)); refine congrArg Ending.returned (congrArg Value.string (ln_bytes_ext ?_)); simp [data_toB, *]; done)
  | (refine (?_ : Ending.returned (Value.string _) = Ending.returned (Value.string _)); refine congrArg Ending.returned (congrArg Value.string (ln_bytes_ext ?_)); simp_all [data_toB]; done)
theorem ext_may (k : Int) (fl : Bool) (lb : ByteArray) (r : Bool) (w : World) (h : (if 0 ≤ k ∧ k < 128 then some (mayB k fl lb) else none) = some r) :
  Calls Try.prog 95 #[.agg #[.int .u8 k, .bool fl, .string lb]] w fun e w' => e = .returned (.bool r) ∧ Below w.heap.size w w' := by
 split at h
 ·rename_i hk
  obtain rfl := Option.some.inj h
  exact may_calls k fl lb w hk.1 hk.2
 ·cases h
theorem ext_line (k : Int) (fl : Bool) (lb : ByteArray) (width : Int) (r : ByteArray) (w : World) (h : (if 0 ≤ k ∧ k < 128 ∧ 0 ≤ width ∧ width ≤ 1073741824 ∧ lb.size ≤ 4000000000 then some (lineB k fl lb width) else none) = some r) :
  Calls Try.prog 96 #[.agg #[.int .u8 k, .bool fl, .string lb], .int .i64 width] w fun e w' => e = .returned (.string r) ∧ Below w.heap.size w w' := by
 split at h
 ·rename_i hk
  obtain rfl := Option.some.inj h
  exact line_calls k fl lb width w hk.1 hk.2.1 hk.2.2.1 hk.2.2.2.1 hk.2.2.2.2
 ·cases h
end Go.Proofs.Ytfiamddinkokbaa.F
end

section
namespace Go.Proofs.Ytfiamddinkokbaa.F
open Go.RowKit Go.Proofs.YtfiamddinkokbaaW.PrintWords Go.Proofs.YtfiamddinkokbaaW.PrintLast Go.Proofs.YtfiamddinkokbaaW.PrintMore
attribute [local go_sem] max2_int min2_int max_two min_two max_three min_three max_four min_four
def stringslite_HasSuffix.f (a0 : ByteArray) (a1 : ByteArray) : Option (Bool) := if (a0.size : Int) ≥ (a1.size : Int) then (if 0 ≤ (wrap64 ((a0.size : Int) - (a1.size : Int))) then (if (wrap64 ((a0.size : Int) - (a1.size : Int))) ≤ (a0.size : Int) then (some ((a0.extract ((wrap64 ((a0.size : Int) - (a1.size : Int))) : Int).toNat a0.size).toList == a1.toList)) else (none)) else (none)) else (some false)
set_option maxHeartbeats 8000000 in
set_option maxRecDepth 100000 in
theorem stringslite_HasSuffix.calls (a0 : ByteArray) (a1 : ByteArray) (r : Bool) (w : World) (h : stringslite_HasSuffix.f a0 a1 = some r) :
  Calls Try.prog 142 #[.string a0, .string a1] w fun e w' => e = .returned (.bool r) ∧ Drawn0 w w' := by
 have H : (if (a0.size : Int) ≥ (a1.size : Int) then (if 0 ≤ (wrap64 ((a0.size : Int) - (a1.size : Int))) then (if (wrap64 ((a0.size : Int) - (a1.size : Int))) ≤ (a0.size : Int) then (some ((a0.extract ((wrap64 ((a0.size : Int) - (a1.size : Int))) : Int).toNat a0.size).toList == a1.toList)) else (none)) else (none)) else (some false)) = some r := h
 clear h
 by_cases c3 : (a0.size : Int) ≥ (a1.size : Int)
 ·rw [if_pos c3] at H
  have c3b0 : decide ((a1.size : Int) ≤ (a0.size : Int)) = true := decide_eq_true c3
  have c3b1 : decide (a1.size ≤ a0.size) = true := decide_eq_true (Int.ofNat_le.mp c3)
  clear c3
  obtain ⟨ji4, hji4⟩ : ∃ j_ : Int, (wrap64 ((a0.size : Int) - (a1.size : Int))) = j_ := ⟨_, rfl⟩
  replace H : (if 0 ≤ (ji4) then (if (ji4) ≤ (a0.size : Int) then (some ((a0.extract ((ji4) : Int).toNat a0.size).toList == a1.toList)) else (none)) else (none)) = some r := by first | (rw [hji4] at H; exact H) | (simp only [hji4] at H ⊢; exact H)
  have hji4w : (IntKind.i64.wrap ((a0.size : Int) - (a1.size : Int))) = ji4 := (i64_w _).trans hji4
  by_cases c5 : 0 ≤ (ji4)
  ·rw [if_pos c5] at H
   have c5b0 := eq_true c5
   have c5b1 : decide (0 ≤ (ji4)) = true := decide_eq_true c5
   clear c5
   by_cases c6 : (ji4) ≤ (a0.size : Int)
   ·rw [if_pos c6] at H
    have c6b0 := eq_true c6
    have c6b1 : decide ((ji4) ≤ (a0.size : Int)) = true := decide_eq_true c6
    clear c6
    obtain rfl := Option.some.inj H
    go_enter Try.func142, Try.ntmps142
    go_wp2
    go_ret
    exact ⟨by first | rfl | (simp; done) | (simp only [← hji4] <;> (first | rfl | simp)) | (simp [*]; done), by repeat (first | exact Drawn0.refl _ | apply Drawn0.step)⟩
   ·rw [if_neg c6] at H
    exact absurd H (by simp)
  ·rw [if_neg c5] at H
   exact absurd H (by simp)
 ·rw [if_neg c3] at H
  have c3b0 : decide ((a1.size : Int) ≤ (a0.size : Int)) = false := decide_eq_false c3
  have c3b1 : decide (a1.size ≤ a0.size) = false := decide_eq_false (fun h => c3 (Int.ofNat_le.mpr h))
  clear c3
  obtain rfl := Option.some.inj H
  go_enter Try.func142, Try.ntmps142
  go_wp2
  go_ret
  exact ⟨by first | rfl | (simp; done) | (simp [*]; done), by repeat (first | exact Drawn0.refl _ | apply Drawn0.step)⟩
def strings_HasSuffix.f (a0 : ByteArray) (a1 : ByteArray) : Option (Bool) := (stringslite_HasSuffix.f a0 a1).bind fun t135 => (some t135)
set_option maxHeartbeats 8000000 in
set_option maxRecDepth 100000 in
theorem strings_HasSuffix.calls (a0 : ByteArray) (a1 : ByteArray) (r : Bool) (w : World) (h : strings_HasSuffix.f a0 a1 = some r) :
  Calls Try.prog 115 #[.string a0, .string a1] w fun e w' => e = .returned (.bool r) ∧ Drawn0 w w' := by
 have H : ((stringslite_HasSuffix.f a0 a1).bind fun t135 => (some t135)) = some r := h
 clear h
 replace H := Option.bind_eq_some_iff.mp H
 obtain ⟨t135, A30, H⟩ := H
 replace H : (some t135) = some r := H
 have A3 := Aside0.mk A30
 clear A30
 obtain rfl := Option.some.inj H
 go_enter Try.func115, Try.ntmps115
 go_wp2_with (first | ((with_reducible refine gate_callee (f := 142) rfl ?_); refine goesL_ (some 7) rfl rfl Try.func142 (by kernel_rfl) rfl #[.string a0, .string a1] rfl (by (try simp only [List.map_toArray, List.map_cons, List.map_nil]); first | done | rfl | (simp only [List.length_drop, List.length_take]; rfl)) ?_; (with_reducible refine (stringslite_HasSuffix.calls a0 a1 t135 _ A3.out).mono ?_); rintro e w' ⟨rfl, ⟨nd, rfl⟩⟩; refine ⟨_, rfl, ?_⟩))
 go_ret
 exact ⟨by first | rfl | (simp; done) | (simp [*]; done), by repeat (first | exact Drawn0.refl _ | apply Drawn0.step)⟩
end Go.Proofs.Ytfiamddinkokbaa.F
end
