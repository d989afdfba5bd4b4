/- Texts joined into one file (wip/tools/pack.py): Rd161, Rd261 -/
import Derived.Test.YtfiamddinkokbaaPB30
set_option linter.unusedVariables false
set_option linter.unusedSimpArgs false
section
namespace Go.Proofs.Ytfiamddinkokbaa.F
open Go.RowKit Go.Shelf Go.Proofs.YtfiamddinkokbaaW.PrintWords
set_option maxHeartbeats 16000000 in
set_option maxRecDepth 100000 in
theorem rd_ok_1_61 {B b : Nat} {out : List S109} {now : S109} {buf : List UInt8} {w : World} (fl : Bool) (lb : ByteArray) (h : Rd B b ⟨out, now, 1, buf⟩ w) (hf : ¬ (fl = true ∧ lacksP buf = false)) (hn : buf.length ≤ 4000000000) (hout : out.length ≤ 100000000000) (hBw : B ≤ w.heap.size) :
  Calls Try.prog 111 #[.pointer (some ⟨b, 0, none⟩), .agg #[.int .u8 61, .bool fl, .string lb]] w fun e w' => e = .returned (.int .i64 0) ∧ Rd B b ⟨out, leftP now (sideP fl buf), 3, []⟩ w' ∧ Below B w w' ∧ KeepU b w w' := by
 obtain ⟨vo0, p0, v0, h⟩ := h
 have hlen : (out.map to106).length = out.length := List.length_map ..
 have HH := Aside0.mk h
 have hlo : Aside0 (B ≤ b) := ⟨h.bld.lo⟩
 have HSd := Aside0.mk (fun W (hr : Rd B b ⟨out, now, 1, buf⟩ W) hBW => rd_side (w := W) fl hr hn hBW)
 have HLk : Aside0 (∀ W, Rd B b ⟨out, now, 1, buf⟩ W → B ≤ W.heap.size → fl = true → Calls Try.prog 140 #[.pointer (some ⟨b, 0, none⟩)] W fun e w' => e = .returned (.bool true) ∧ Rd B b ⟨out, now, 1, buf⟩ w' ∧ Below B W w' ∧ KeepT b W w') := ⟨fun W hr hBW he => by
  have := rd_lacks hr hn hBW
  have hl : lacksP buf = true := by
   cases hq : lacksP buf with
   | true => rfl
   | false => exact absurd ⟨he, hq⟩ hf
  rw [show lacksP (⟨out, now, 1, buf⟩ : PSt).buf = true from hl] at this
  exact this⟩
 generalize hs : sideP fl buf = s
 rw [show sideP fl (⟨out, now, 1, buf⟩ : PSt).buf = s from hs] at HSd
 have HBl : Aside0 (∀ o, Below B w (w.alloc o)) := ⟨fun o => (Below.refl B w).alloc hBw o⟩
 have HBZ : Aside0 (∀ o, B ≤ (w.alloc o).heap.size) := ⟨fun o => Nat.le_trans hBw (below_alloc (Below.refl w.heap.size w) o).size⟩
 clear h hf hn hs
 go_enter Try.func111, Try.ntmps111
 go_wp2_with fail
 have HM := Aside0.mk (World.alloc_heap_new w (.cells #[.int .u8 61, .bool fl, .string lb] 62))
 have HR := Aside0.mk (HH.out.below (below_alloc (Below.refl w.heap.size w) (.cells #[.int .u8 61, .bool fl, .string lb] 62)))
 have HB := Aside0.mk (HBl.out (.cells #[.int .u8 61, .bool fl, .string lb] 62))
 have HBW := Aside0.mk (HBZ.out (.cells #[.int .u8 61, .bool fl, .string lb] 62))
 have hne : w.heap.size ≠ b := by have := HH.out.bld.lt; omega
 have HK := Aside0.mk (KeepT.below (b := b) (below_alloc (Below.refl w.heap.size w) (.cells #[.int .u8 61, .bool fl, .string lb] 62)))
 clear HBl HBZ HH hBw
 generalize w.alloc (.cells #[.int .u8 61, .bool fl, .string lb] 62) = W at *
 generalize w.heap.size = nb at *
 have m0 := (blk_cell HM.out 0).trans (rfl : _ = some (Value.int .u8 61))
 have m1 := (blk_cell HM.out 1).trans (rfl : _ = some (Value.bool fl))
 have m2 := (blk_cell HM.out 2).trans (rfl : _ = some (Value.string lb))
 cases fl
 ·refine (rd_to 61 3 HR.out (by show (0 : Int) ≤ 1 ∧ (1 : Int) ≤ 3; omega) rfl).mono ?_
  rintro e w1 ⟨rfl, rfl⟩
  go_wp2_with (first
   | (go_at_call 140; (refine (HLk.out _ ⟨_, _, _, HR.out⟩ HBW.out (by first | trivial | rfl)).mono ?_; rintro e w2 ⟨rfl, ⟨vo2, p2, v2, h2⟩, hb2, hk2⟩; have HR2 := Aside0.mk h2; have HK2 := Aside0.mk (KeepT.trans HK.out hk2); have HB2 := Aside0.mk (Below.trans HB.out hb2); have HBW2 := Aside0.mk (Nat.le_trans HBW.out hb2.size); have HM2 := Aside0.mk (hk2.cell HM.out (by decide) hne); have m20 := (blk_cell HM2.out 0).trans (rfl : _ = some (Value.int .u8 61)); have m21 := (blk_cell HM2.out 1).trans (rfl : _ = some (Value.bool true)); have m22 := (blk_cell HM2.out 2).trans (rfl : _ = some (Value.string lb)); clear h2 hb2 hk2))
   | (go_at_call 112; refine (HSd.out _ ⟨_, _, _, HR.out⟩ HBW.out).mono ?_; rintro e w3 ⟨rfl, ⟨vo, h3⟩, hb3, hk3⟩; have HR3 := Aside0.mk h3; have HK3 := Aside0.mk (KeepU.of (KeepT.trans HK.out hk3)); have HB3 := Aside0.mk (Below.trans HB.out hb3); have HBW3 := Aside0.mk (Nat.le_trans HBW.out hb3.size); have HM3 := Aside0.mk (hk3.cell HM.out (by decide) hne); obtain ⟨Av, cv, hvo⟩ := Kd.R_slice HR3.out.row; rw [List.length_map] at hvo; subst hvo; have n2 := (blk_cell HM3.out 2).trans (rfl : _ = some (Value.string lb)); have c0 := (blk_cell HR3.out.bld.blk 0).trans (rfl : _ = some (Value.slice Av out.length cv)); have cz0 := Lib.frozen_of_heap HR3.out.bld.blk 0; have c1 := (blk_cell HR3.out.bld.blk 1).trans (rfl : _ = some (Value.string now.f0)); have cz1 := Lib.frozen_of_heap HR3.out.bld.blk 1; have c2 := (blk_cell HR3.out.bld.blk 2).trans (rfl : _ = some (Value.string now.f1)); have cz2 := Lib.frozen_of_heap HR3.out.bld.blk 2; have c3 := (blk_cell HR3.out.bld.blk 3).trans (rfl : _ = some (Value.string now.f2)); have cz3 := Lib.frozen_of_heap HR3.out.bld.blk 3; have c4 := (blk_cell HR3.out.bld.blk 4).trans (rfl : _ = some (Value.bool now.f3)); have cz4 := Lib.frozen_of_heap HR3.out.bld.blk 4; have c5 := (blk_cell HR3.out.bld.blk 5).trans (rfl : _ = some (Value.string now.f4)); have cz5 := Lib.frozen_of_heap HR3.out.bld.blk 5; have c6 := (blk_cell HR3.out.bld.blk 6).trans (rfl : _ = some (Value.string now.f5)); have cz6 := Lib.frozen_of_heap HR3.out.bld.blk 6; have c7 := (blk_cell HR3.out.bld.blk 7).trans (rfl : _ = some (Value.string now.f6)); have cz7 := Lib.frozen_of_heap HR3.out.bld.blk 7; have c8 := (blk_cell HR3.out.bld.blk 8).trans (rfl : _ = some (Value.string now.f7)); have cz8 := Lib.frozen_of_heap HR3.out.bld.blk 8; have c9 := (blk_cell HR3.out.bld.blk 9).trans (rfl : _ = some (Value.bool now.f8)); have cz9 := Lib.frozen_of_heap HR3.out.bld.blk 9; have c10 := (blk_cell HR3.out.bld.blk 10).trans (rfl : _ = some (Value.int .i64 1)); have cz10 := Lib.frozen_of_heap HR3.out.bld.blk 10; have c11 := (blk_cell HR3.out.bld.blk 11).trans (rfl : _ = some (Value.pointer none)); have cz11 := Lib.frozen_of_heap HR3.out.bld.blk 11; have c12 := (blk_cell HR3.out.bld.blk 12).trans (rfl : _ = some (Value.slice none 0 0)); have cz12 := Lib.frozen_of_heap HR3.out.bld.blk 12; have hne2 := hne; have HFr : Aside0 (∀ j, w3.heap.size ≤ j → j ≠ b) := ⟨fun j hj e => by have := HR3.out.bld.lt; omega⟩; clear h3 hb3 hk3))
  go_ret
  refine ⟨rfl, rd_new (w := w3) hlo.out ?_ HR3.out.row (fun k hk => by simp [World.setCell, Array.getElem?_modify, Ne.symm hk]), ?_, ?_⟩
  ·simp [World.setCell, Array.getElem?_modify, HR3.out.bld.blk, leftP, baseP]
  rotate_left
  ·(repeat (first | (with_reducible exact HK3.out) | (with_reducible refine KeepU.drew ?_) | (with_reducible refine KeepU.set ?_ _ _)))
  ·repeat (first | (with_reducible exact HB3.out) | (with_reducible refine Below.setCell (p := ⟨b, _, none⟩) ?_ hlo.out _))
 ·refine (rd_to 61 3 HR.out (by show (0 : Int) ≤ 1 ∧ (1 : Int) ≤ 3; omega) rfl).mono ?_
  rintro e w1 ⟨rfl, rfl⟩
  go_wp2_with (first
   | (go_at_call 140; (refine (HLk.out _ ⟨_, _, _, HR.out⟩ HBW.out (by first | trivial | rfl)).mono ?_; rintro e w2 ⟨rfl, ⟨vo2, p2, v2, h2⟩, hb2, hk2⟩; have HR2 := Aside0.mk h2; have HK2 := Aside0.mk (KeepT.trans HK.out hk2); have HB2 := Aside0.mk (Below.trans HB.out hb2); have HBW2 := Aside0.mk (Nat.le_trans HBW.out hb2.size); have HM2 := Aside0.mk (hk2.cell HM.out (by decide) hne); have m20 := (blk_cell HM2.out 0).trans (rfl : _ = some (Value.int .u8 61)); have m21 := (blk_cell HM2.out 1).trans (rfl : _ = some (Value.bool true)); have m22 := (blk_cell HM2.out 2).trans (rfl : _ = some (Value.string lb)); clear h2 hb2 hk2))
   | (go_at_call 112; refine (HSd.out _ ⟨_, _, _, HR2.out⟩ HBW2.out).mono ?_; rintro e w3 ⟨rfl, ⟨vo, h3⟩, hb3, hk3⟩; have HR3 := Aside0.mk h3; have HK3 := Aside0.mk (KeepU.of (KeepT.trans HK2.out hk3)); have HB3 := Aside0.mk (Below.trans HB2.out hb3); have HBW3 := Aside0.mk (Nat.le_trans HBW2.out hb3.size); have HM3 := Aside0.mk (hk3.cell HM2.out (by decide) hne); obtain ⟨Av, cv, hvo⟩ := Kd.R_slice HR3.out.row; rw [List.length_map] at hvo; subst hvo; have n2 := (blk_cell HM3.out 2).trans (rfl : _ = some (Value.string lb)); have c0 := (blk_cell HR3.out.bld.blk 0).trans (rfl : _ = some (Value.slice Av out.length cv)); have cz0 := Lib.frozen_of_heap HR3.out.bld.blk 0; have c1 := (blk_cell HR3.out.bld.blk 1).trans (rfl : _ = some (Value.string now.f0)); have cz1 := Lib.frozen_of_heap HR3.out.bld.blk 1; have c2 := (blk_cell HR3.out.bld.blk 2).trans (rfl : _ = some (Value.string now.f1)); have cz2 := Lib.frozen_of_heap HR3.out.bld.blk 2; have c3 := (blk_cell HR3.out.bld.blk 3).trans (rfl : _ = some (Value.string now.f2)); have cz3 := Lib.frozen_of_heap HR3.out.bld.blk 3; have c4 := (blk_cell HR3.out.bld.blk 4).trans (rfl : _ = some (Value.bool now.f3)); have cz4 := Lib.frozen_of_heap HR3.out.bld.blk 4; have c5 := (blk_cell HR3.out.bld.blk 5).trans (rfl : _ = some (Value.string now.f4)); have cz5 := Lib.frozen_of_heap HR3.out.bld.blk 5; have c6 := (blk_cell HR3.out.bld.blk 6).trans (rfl : _ = some (Value.string now.f5)); have cz6 := Lib.frozen_of_heap HR3.out.bld.blk 6; have c7 := (blk_cell HR3.out.bld.blk 7).trans (rfl : _ = some (Value.string now.f6)); have cz7 := Lib.frozen_of_heap HR3.out.bld.blk 7; have c8 := (blk_cell HR3.out.bld.blk 8).trans (rfl : _ = some (Value.string now.f7)); have cz8 := Lib.frozen_of_heap HR3.out.bld.blk 8; have c9 := (blk_cell HR3.out.bld.blk 9).trans (rfl : _ = some (Value.bool now.f8)); have cz9 := Lib.frozen_of_heap HR3.out.bld.blk 9; have c10 := (blk_cell HR3.out.bld.blk 10).trans (rfl : _ = some (Value.int .i64 1)); have cz10 := Lib.frozen_of_heap HR3.out.bld.blk 10; have c11 := (blk_cell HR3.out.bld.blk 11).trans (rfl : _ = some (Value.pointer none)); have cz11 := Lib.frozen_of_heap HR3.out.bld.blk 11; have c12 := (blk_cell HR3.out.bld.blk 12).trans (rfl : _ = some (Value.slice none 0 0)); have cz12 := Lib.frozen_of_heap HR3.out.bld.blk 12; have hne2 := hne; have HFr : Aside0 (∀ j, w3.heap.size ≤ j → j ≠ b) := ⟨fun j hj e => by have := HR3.out.bld.lt; omega⟩; clear h3 hb3 hk3))
  go_ret
  refine ⟨rfl, rd_new (w := w3) hlo.out ?_ HR3.out.row (fun k hk => by simp [World.setCell, Array.getElem?_modify, Ne.symm hk]), ?_, ?_⟩
  ·simp [World.setCell, Array.getElem?_modify, HR3.out.bld.blk, leftP, baseP]
  rotate_left
  ·(repeat (first | (with_reducible exact HK3.out) | (with_reducible refine KeepU.drew ?_) | (with_reducible refine KeepU.set ?_ _ _)))
  ·repeat (first | (with_reducible exact HB3.out) | (with_reducible refine Below.setCell (p := ⟨b, _, none⟩) ?_ hlo.out _))
set_option maxHeartbeats 16000000 in
set_option maxRecDepth 100000 in
theorem rd_ok_2_61 {B b : Nat} {out : List S109} {now : S109} {buf : List UInt8} {w : World} (fl : Bool) (lb : ByteArray) (h : Rd B b ⟨out, now, 2, buf⟩ w) (hf : ¬ (fl = true ∧ lacksP buf = false)) (hn : buf.length ≤ 4000000000) (hout : out.length ≤ 100000000000) (hBw : B ≤ w.heap.size) :
  Calls Try.prog 111 #[.pointer (some ⟨b, 0, none⟩), .agg #[.int .u8 61, .bool fl, .string lb]] w fun e w' => e = .returned (.int .i64 0) ∧ Rd B b ⟨out, baseP now (sideP fl buf), 3, []⟩ w' ∧ Below B w w' ∧ KeepU b w w' := by
 obtain ⟨vo0, p0, v0, h⟩ := h
 have hlen : (out.map to106).length = out.length := List.length_map ..
 have HH := Aside0.mk h
 have hlo : Aside0 (B ≤ b) := ⟨h.bld.lo⟩
 have HSd := Aside0.mk (fun W (hr : Rd B b ⟨out, now, 2, buf⟩ W) hBW => rd_side (w := W) fl hr hn hBW)
 have HLk : Aside0 (∀ W, Rd B b ⟨out, now, 2, buf⟩ W → B ≤ W.heap.size → fl = true → Calls Try.prog 140 #[.pointer (some ⟨b, 0, none⟩)] W fun e w' => e = .returned (.bool true) ∧ Rd B b ⟨out, now, 2, buf⟩ w' ∧ Below B W w' ∧ KeepT b W w') := ⟨fun W hr hBW he => by
  have := rd_lacks hr hn hBW
  have hl : lacksP buf = true := by
   cases hq : lacksP buf with
   | true => rfl
   | false => exact absurd ⟨he, hq⟩ hf
  rw [show lacksP (⟨out, now, 2, buf⟩ : PSt).buf = true from hl] at this
  exact this⟩
 generalize hs : sideP fl buf = s
 rw [show sideP fl (⟨out, now, 2, buf⟩ : PSt).buf = s from hs] at HSd
 have HBl : Aside0 (∀ o, Below B w (w.alloc o)) := ⟨fun o => (Below.refl B w).alloc hBw o⟩
 have HBZ : Aside0 (∀ o, B ≤ (w.alloc o).heap.size) := ⟨fun o => Nat.le_trans hBw (below_alloc (Below.refl w.heap.size w) o).size⟩
 clear h hf hn hs
 go_enter Try.func111, Try.ntmps111
 go_wp2_with fail
 have HM := Aside0.mk (World.alloc_heap_new w (.cells #[.int .u8 61, .bool fl, .string lb] 62))
 have HR := Aside0.mk (HH.out.below (below_alloc (Below.refl w.heap.size w) (.cells #[.int .u8 61, .bool fl, .string lb] 62)))
 have HB := Aside0.mk (HBl.out (.cells #[.int .u8 61, .bool fl, .string lb] 62))
 have HBW := Aside0.mk (HBZ.out (.cells #[.int .u8 61, .bool fl, .string lb] 62))
 have hne : w.heap.size ≠ b := by have := HH.out.bld.lt; omega
 have HK := Aside0.mk (KeepT.below (b := b) (below_alloc (Below.refl w.heap.size w) (.cells #[.int .u8 61, .bool fl, .string lb] 62)))
 clear HBl HBZ HH hBw
 generalize w.alloc (.cells #[.int .u8 61, .bool fl, .string lb] 62) = W at *
 generalize w.heap.size = nb at *
 have m0 := (blk_cell HM.out 0).trans (rfl : _ = some (Value.int .u8 61))
 have m1 := (blk_cell HM.out 1).trans (rfl : _ = some (Value.bool fl))
 have m2 := (blk_cell HM.out 2).trans (rfl : _ = some (Value.string lb))
 cases fl
 ·refine (rd_to 61 3 HR.out (by show (0 : Int) ≤ 2 ∧ (2 : Int) ≤ 3; omega) rfl).mono ?_
  rintro e w1 ⟨rfl, rfl⟩
  go_wp2_with (first
   | (go_at_call 140; (refine (HLk.out _ ⟨_, _, _, HR.out⟩ HBW.out (by first | trivial | rfl)).mono ?_; rintro e w2 ⟨rfl, ⟨vo2, p2, v2, h2⟩, hb2, hk2⟩; have HR2 := Aside0.mk h2; have HK2 := Aside0.mk (KeepT.trans HK.out hk2); have HB2 := Aside0.mk (Below.trans HB.out hb2); have HBW2 := Aside0.mk (Nat.le_trans HBW.out hb2.size); have HM2 := Aside0.mk (hk2.cell HM.out (by decide) hne); have m20 := (blk_cell HM2.out 0).trans (rfl : _ = some (Value.int .u8 61)); have m21 := (blk_cell HM2.out 1).trans (rfl : _ = some (Value.bool true)); have m22 := (blk_cell HM2.out 2).trans (rfl : _ = some (Value.string lb)); clear h2 hb2 hk2))
   | (go_at_call 112; refine (HSd.out _ ⟨_, _, _, HR.out⟩ HBW.out).mono ?_; rintro e w3 ⟨rfl, ⟨vo, h3⟩, hb3, hk3⟩; have HR3 := Aside0.mk h3; have HK3 := Aside0.mk (KeepU.of (KeepT.trans HK.out hk3)); have HB3 := Aside0.mk (Below.trans HB.out hb3); have HBW3 := Aside0.mk (Nat.le_trans HBW.out hb3.size); have HM3 := Aside0.mk (hk3.cell HM.out (by decide) hne); obtain ⟨Av, cv, hvo⟩ := Kd.R_slice HR3.out.row; rw [List.length_map] at hvo; subst hvo; have n2 := (blk_cell HM3.out 2).trans (rfl : _ = some (Value.string lb)); have c0 := (blk_cell HR3.out.bld.blk 0).trans (rfl : _ = some (Value.slice Av out.length cv)); have cz0 := Lib.frozen_of_heap HR3.out.bld.blk 0; have c1 := (blk_cell HR3.out.bld.blk 1).trans (rfl : _ = some (Value.string now.f0)); have cz1 := Lib.frozen_of_heap HR3.out.bld.blk 1; have c2 := (blk_cell HR3.out.bld.blk 2).trans (rfl : _ = some (Value.string now.f1)); have cz2 := Lib.frozen_of_heap HR3.out.bld.blk 2; have c3 := (blk_cell HR3.out.bld.blk 3).trans (rfl : _ = some (Value.string now.f2)); have cz3 := Lib.frozen_of_heap HR3.out.bld.blk 3; have c4 := (blk_cell HR3.out.bld.blk 4).trans (rfl : _ = some (Value.bool now.f3)); have cz4 := Lib.frozen_of_heap HR3.out.bld.blk 4; have c5 := (blk_cell HR3.out.bld.blk 5).trans (rfl : _ = some (Value.string now.f4)); have cz5 := Lib.frozen_of_heap HR3.out.bld.blk 5; have c6 := (blk_cell HR3.out.bld.blk 6).trans (rfl : _ = some (Value.string now.f5)); have cz6 := Lib.frozen_of_heap HR3.out.bld.blk 6; have c7 := (blk_cell HR3.out.bld.blk 7).trans (rfl : _ = some (Value.string now.f6)); have cz7 := Lib.frozen_of_heap HR3.out.bld.blk 7; have c8 := (blk_cell HR3.out.bld.blk 8).trans (rfl : _ = some (Value.string now.f7)); have cz8 := Lib.frozen_of_heap HR3.out.bld.blk 8; have c9 := (blk_cell HR3.out.bld.blk 9).trans (rfl : _ = some (Value.bool now.f8)); have cz9 := Lib.frozen_of_heap HR3.out.bld.blk 9; have c10 := (blk_cell HR3.out.bld.blk 10).trans (rfl : _ = some (Value.int .i64 2)); have cz10 := Lib.frozen_of_heap HR3.out.bld.blk 10; have c11 := (blk_cell HR3.out.bld.blk 11).trans (rfl : _ = some (Value.pointer none)); have cz11 := Lib.frozen_of_heap HR3.out.bld.blk 11; have c12 := (blk_cell HR3.out.bld.blk 12).trans (rfl : _ = some (Value.slice none 0 0)); have cz12 := Lib.frozen_of_heap HR3.out.bld.blk 12; have hne2 := hne; have HFr : Aside0 (∀ j, w3.heap.size ≤ j → j ≠ b) := ⟨fun j hj e => by have := HR3.out.bld.lt; omega⟩; clear h3 hb3 hk3))
  go_ret
  refine ⟨rfl, rd_new (w := w3) hlo.out ?_ HR3.out.row (fun k hk => by simp [World.setCell, Array.getElem?_modify, Ne.symm hk]), ?_, ?_⟩
  ·simp [World.setCell, Array.getElem?_modify, HR3.out.bld.blk, leftP, baseP]
  rotate_left
  ·(repeat (first | (with_reducible exact HK3.out) | (with_reducible refine KeepU.drew ?_) | (with_reducible refine KeepU.set ?_ _ _)))
  ·repeat (first | (with_reducible exact HB3.out) | (with_reducible refine Below.setCell (p := ⟨b, _, none⟩) ?_ hlo.out _))
 ·refine (rd_to 61 3 HR.out (by show (0 : Int) ≤ 2 ∧ (2 : Int) ≤ 3; omega) rfl).mono ?_
  rintro e w1 ⟨rfl, rfl⟩
  go_wp2_with (first
   | (go_at_call 140; (refine (HLk.out _ ⟨_, _, _, HR.out⟩ HBW.out (by first | trivial | rfl)).mono ?_; rintro e w2 ⟨rfl, ⟨vo2, p2, v2, h2⟩, hb2, hk2⟩; have HR2 := Aside0.mk h2; have HK2 := Aside0.mk (KeepT.trans HK.out hk2); have HB2 := Aside0.mk (Below.trans HB.out hb2); have HBW2 := Aside0.mk (Nat.le_trans HBW.out hb2.size); have HM2 := Aside0.mk (hk2.cell HM.out (by decide) hne); have m20 := (blk_cell HM2.out 0).trans (rfl : _ = some (Value.int .u8 61)); have m21 := (blk_cell HM2.out 1).trans (rfl : _ = some (Value.bool true)); have m22 := (blk_cell HM2.out 2).trans (rfl : _ = some (Value.string lb)); clear h2 hb2 hk2))
   | (go_at_call 112; refine (HSd.out _ ⟨_, _, _, HR2.out⟩ HBW2.out).mono ?_; rintro e w3 ⟨rfl, ⟨vo, h3⟩, hb3, hk3⟩; have HR3 := Aside0.mk h3; have HK3 := Aside0.mk (KeepU.of (KeepT.trans HK2.out hk3)); have HB3 := Aside0.mk (Below.trans HB2.out hb3); have HBW3 := Aside0.mk (Nat.le_trans HBW2.out hb3.size); have HM3 := Aside0.mk (hk3.cell HM2.out (by decide) hne); obtain ⟨Av, cv, hvo⟩ := Kd.R_slice HR3.out.row; rw [List.length_map] at hvo; subst hvo; have n2 := (blk_cell HM3.out 2).trans (rfl : _ = some (Value.string lb)); have c0 := (blk_cell HR3.out.bld.blk 0).trans (rfl : _ = some (Value.slice Av out.length cv)); have cz0 := Lib.frozen_of_heap HR3.out.bld.blk 0; have c1 := (blk_cell HR3.out.bld.blk 1).trans (rfl : _ = some (Value.string now.f0)); have cz1 := Lib.frozen_of_heap HR3.out.bld.blk 1; have c2 := (blk_cell HR3.out.bld.blk 2).trans (rfl : _ = some (Value.string now.f1)); have cz2 := Lib.frozen_of_heap HR3.out.bld.blk 2; have c3 := (blk_cell HR3.out.bld.blk 3).trans (rfl : _ = some (Value.string now.f2)); have cz3 := Lib.frozen_of_heap HR3.out.bld.blk 3; have c4 := (blk_cell HR3.out.bld.blk 4).trans (rfl : _ = some (Value.bool now.f3)); have cz4 := Lib.frozen_of_heap HR3.out.bld.blk 4; have c5 := (blk_cell HR3.out.bld.blk 5).trans (rfl : _ = some (Value.string now.f4)); have cz5 := Lib.frozen_of_heap HR3.out.bld.blk 5; have c6 := (blk_cell HR3.out.bld.blk 6).trans (rfl : _ = some (Value.string now.f5)); have cz6 := Lib.frozen_of_heap HR3.out.bld.blk 6; have c7 := (blk_cell HR3.out.bld.blk 7).trans (rfl : _ = some (Value.string now.f6)); have cz7 := Lib.frozen_of_heap HR3.out.bld.blk 7; have c8 := (blk_cell HR3.out.bld.blk 8).trans (rfl : _ = some (Value.string now.f7)); have cz8 := Lib.frozen_of_heap HR3.out.bld.blk 8; have c9 := (blk_cell HR3.out.bld.blk 9).trans (rfl : _ = some (Value.bool now.f8)); have cz9 := Lib.frozen_of_heap HR3.out.bld.blk 9; have c10 := (blk_cell HR3.out.bld.blk 10).trans (rfl : _ = some (Value.int .i64 2)); have cz10 := Lib.frozen_of_heap HR3.out.bld.blk 10; have c11 := (blk_cell HR3.out.bld.blk 11).trans (rfl : _ = some (Value.pointer none)); have cz11 := Lib.frozen_of_heap HR3.out.bld.blk 11; have c12 := (blk_cell HR3.out.bld.blk 12).trans (rfl : _ = some (Value.slice none 0 0)); have cz12 := Lib.frozen_of_heap HR3.out.bld.blk 12; have hne2 := hne; have HFr : Aside0 (∀ j, w3.heap.size ≤ j → j ≠ b) := ⟨fun j hj e => by have := HR3.out.bld.lt; omega⟩; clear h3 hb3 hk3))
  go_ret
  refine ⟨rfl, rd_new (w := w3) hlo.out ?_ HR3.out.row (fun k hk => by simp [World.setCell, Array.getElem?_modify, Ne.symm hk]), ?_, ?_⟩
  ·simp [World.setCell, Array.getElem?_modify, HR3.out.bld.blk, leftP, baseP]
  rotate_left
  ·(repeat (first | (with_reducible exact HK3.out) | (with_reducible refine KeepU.drew ?_) | (with_reducible refine KeepU.set ?_ _ _)))
  ·repeat (first | (with_reducible exact HB3.out) | (with_reducible refine Below.setCell (p := ⟨b, _, none⟩) ?_ hlo.out _))
end Go.Proofs.Ytfiamddinkokbaa.F
end
