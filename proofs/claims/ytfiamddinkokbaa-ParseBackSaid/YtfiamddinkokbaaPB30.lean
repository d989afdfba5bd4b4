/- Texts joined into one file (wip/tools/pack.py): ReaderM, Rd060, Rd1124 -/
import Derived.Test.YtfiamddinkokbaaPB29
set_option linter.unusedVariables false
set_option linter.unusedSimpArgs false
section
namespace Go.Proofs.Ytfiamddinkokbaa.F
open Go.RowKit Go.Shelf Go.Proofs.YtfiamddinkokbaaW.PrintWords
theorem tr1o {W : World} {p : Addr} {v : Value} (o : Obj) (h : W.cell? p = some v) : (W.alloc o).cell? p = some v := ((below_alloc (Below.refl W.heap.size W) o).cell (World.block_lt_of_cell? W _ h)).trans h
theorem part_inf : (Try.prog.info? 106).map (fun i => (i.zero, i.size, i.bytes)) = some (some (.agg #[.string ⟨#[]⟩, .string ⟨#[]⟩, .string ⟨#[]⟩, .bool false, .string ⟨#[]⟩, .string ⟨#[]⟩, .string ⟨#[]⟩, .string ⟨#[]⟩, .bool false]), 9, 128) := by kernel_rfl
set_option maxHeartbeats 4000000 in
set_option maxRecDepth 100000 in
theorem rd_stray {B b : Nat} {st : PSt} {w : World} (k : Int) (fl : Bool) (lb : ByteArray) (h : Rd B b st w) (hw : 0 ≤ st.wh ∧ st.wh ≤ 3) (hd : toP k st.wh = -1) (hBw : B ≤ w.heap.size) :
  Calls Try.prog 111 #[.pointer (some ⟨b, 0, none⟩), .agg #[.int .u8 k, .bool fl, .string lb]] w fun e w' => e = .returned (.int .i64 (if k = 60 then 7 else 8)) ∧ Below B w w' := by
 obtain ⟨vo, p, v, h⟩ := h
 have HT := Aside0.mk (fun W (hb : Below w.heap.size w W) => rd_to k (-1) (h.below hb) hw hd)
 have HB := Aside0.mk (fun o => (Below.refl B w).alloc hBw o)
 clear h hw hd hBw
 by_cases h60 : k = 60
 ·subst h60
  rw [if_pos rfl]
  go_enter Try.func111, Try.ntmps111
  go_wp2_with (go_at_call 139; refine (HT.out _ (below_alloc (Below.refl _ _) _)).mono ?_; rintro e w1 ⟨rfl, rfl⟩)
  go_ret
  exact ⟨rfl, HB.out _⟩
 ·rw [if_neg h60]
  have q : (k == (60 : Int)) = false := beq_eq_false_iff_ne.2 h60
  clear h60
  go_enter Try.func111, Try.ntmps111
  go_wp2_with (go_at_call 139; refine (HT.out _ (below_alloc (Below.refl _ _) _)).mono ?_; rintro e w1 ⟨rfl, rfl⟩)
  go_ret
  exact ⟨rfl, HB.out _⟩
set_option maxHeartbeats 4000000 in
set_option maxRecDepth 100000 in
theorem rd_flag {B b : Nat} {st : PSt} {w : World} (k d : Int) (lb : ByteArray) (h : Rd B b st w) (hw : 0 ≤ st.wh ∧ st.wh ≤ 3) (hd : toP k st.wh = d) (hn : d ≠ -1) (hl : lacksP st.buf = false) (hs : st.buf.length ≤ 4000000000) (hBw : B ≤ w.heap.size) :
  Calls Try.prog 111 #[.pointer (some ⟨b, 0, none⟩), .agg #[.int .u8 k, .bool true, .string lb]] w fun e w' => e = .returned (.int .i64 9) ∧ Below B w w' := by
 obtain ⟨vo, p, v, h⟩ := h
 have HT := Aside0.mk (fun W (hb : Below w.heap.size w W) => rd_to k d (h.below hb) hw hd)
 have HL := Aside0.mk (fun W (hb : Below w.heap.size w W) => rd_lacks ⟨vo, p, v, h.below hb⟩ hs (Nat.le_trans hBw hb.size))
 rw [hl] at HL
 have HB := Aside0.mk (fun o => (Below.refl B w).alloc hBw o)
 have q : (d == (-1 : Int)) = false := beq_eq_false_iff_ne.2 hn
 clear h hw hd hBw hl hn
 by_cases h60 : k = 60
 ·subst h60
  go_enter Try.func111, Try.ntmps111
  go_wp2_with (first
   | (go_at_call 139; refine (HT.out _ (below_alloc (Below.refl _ _) _)).mono ?_; rintro e w1 ⟨rfl, rfl⟩)
   | (go_at_call 140; refine (HL.out _ (below_alloc (Below.refl _ _) _)).mono ?_; rintro e w2 ⟨rfl, _, hb2, _⟩))
  go_ret
  exact ⟨rfl, Below.trans (HB.out _) hb2⟩
 ·have q6 : (k == (60 : Int)) = false := beq_eq_false_iff_ne.2 h60
  clear h60
  go_enter Try.func111, Try.ntmps111
  go_wp2_with (first
   | (go_at_call 139; refine (HT.out _ (below_alloc (Below.refl _ _) _)).mono ?_; rintro e w1 ⟨rfl, rfl⟩)
   | (go_at_call 140; refine (HL.out _ (below_alloc (Below.refl _ _) _)).mono ?_; rintro e w2 ⟨rfl, _, hb2, _⟩))
  go_ret
  exact ⟨rfl, Below.trans (HB.out _) hb2⟩
set_option maxHeartbeats 16000000 in
set_option maxRecDepth 100000 in
theorem rd_ok_0_60 {B b : Nat} {out : List S109} {now : S109} {buf : List UInt8} {w : World} (fl : Bool) (lb : ByteArray) (h : Rd B b ⟨out, now, 0, buf⟩ w) (hf : ¬ (fl = true ∧ lacksP buf = false)) (hn : buf.length ≤ 4000000000) (hout : out.length ≤ 100000000000) (hBw : B ≤ w.heap.size) :
  Calls Try.prog 111 #[.pointer (some ⟨b, 0, none⟩), .agg #[.int .u8 60, .bool fl, .string lb]] w fun e w' => e = .returned (.int .i64 0) ∧ Rd B b ⟨out ++ [textP (sideP fl buf)], openP lb, 1, []⟩ w' ∧ Below B w w' ∧ KeepU b w w' := by
 obtain ⟨vo0, p0, v0, h⟩ := h
 have hlen : (out.map to106).length = out.length := List.length_map ..
 have HH := Aside0.mk h
 have hlo : Aside0 (B ≤ b) := ⟨h.bld.lo⟩
 have HSd := Aside0.mk (fun W (hr : Rd B b ⟨out, now, 0, buf⟩ W) hBW => rd_side (w := W) fl hr hn hBW)
 have HLk : Aside0 (∀ W, Rd B b ⟨out, now, 0, buf⟩ W → B ≤ W.heap.size → fl = true → Calls Try.prog 140 #[.pointer (some ⟨b, 0, none⟩)] W fun e w' => e = .returned (.bool true) ∧ Rd B b ⟨out, now, 0, buf⟩ w' ∧ Below B W w' ∧ KeepT b W w') := ⟨fun W hr hBW he => by
  have := rd_lacks hr hn hBW
  have hl : lacksP buf = true := by
   cases hq : lacksP buf with
   | true => rfl
   | false => exact absurd ⟨he, hq⟩ hf
  rw [show lacksP (⟨out, now, 0, buf⟩ : PSt).buf = true from hl] at this
  exact this⟩
 generalize hs : sideP fl buf = s
 rw [show sideP fl (⟨out, now, 0, buf⟩ : PSt).buf = s from hs] at HSd
 have HBl : Aside0 (∀ o, Below B w (w.alloc o)) := ⟨fun o => (Below.refl B w).alloc hBw o⟩
 have HBZ : Aside0 (∀ o, B ≤ (w.alloc o).heap.size) := ⟨fun o => Nat.le_trans hBw (below_alloc (Below.refl w.heap.size w) o).size⟩
 clear h hf hn hs
 go_enter Try.func111, Try.ntmps111
 go_wp2_with fail
 have HM := Aside0.mk (World.alloc_heap_new w (.cells #[.int .u8 60, .bool fl, .string lb] 62))
 have HR := Aside0.mk (HH.out.below (below_alloc (Below.refl w.heap.size w) (.cells #[.int .u8 60, .bool fl, .string lb] 62)))
 have HB := Aside0.mk (HBl.out (.cells #[.int .u8 60, .bool fl, .string lb] 62))
 have HBW := Aside0.mk (HBZ.out (.cells #[.int .u8 60, .bool fl, .string lb] 62))
 have hne : w.heap.size ≠ b := by have := HH.out.bld.lt; omega
 have HK := Aside0.mk (KeepT.below (b := b) (below_alloc (Below.refl w.heap.size w) (.cells #[.int .u8 60, .bool fl, .string lb] 62)))
 clear HBl HBZ HH hBw
 generalize w.alloc (.cells #[.int .u8 60, .bool fl, .string lb] 62) = W at *
 generalize w.heap.size = nb at *
 have m0 := (blk_cell HM.out 0).trans (rfl : _ = some (Value.int .u8 60))
 have m1 := (blk_cell HM.out 1).trans (rfl : _ = some (Value.bool fl))
 have m2 := (blk_cell HM.out 2).trans (rfl : _ = some (Value.string lb))
 cases fl
 ·refine (rd_to 60 1 HR.out (by show (0 : Int) ≤ 0 ∧ (0 : Int) ≤ 3; omega) rfl).mono ?_
  rintro e w1 ⟨rfl, rfl⟩
  go_wp2_with (first
   | (go_at_call 140; (refine (HLk.out _ ⟨_, _, _, HR.out⟩ HBW.out (by first | trivial | rfl)).mono ?_; rintro e w2 ⟨rfl, ⟨vo2, p2, v2, h2⟩, hb2, hk2⟩; have HR2 := Aside0.mk h2; have HK2 := Aside0.mk (KeepT.trans HK.out hk2); have HB2 := Aside0.mk (Below.trans HB.out hb2); have HBW2 := Aside0.mk (Nat.le_trans HBW.out hb2.size); have HM2 := Aside0.mk (hk2.cell HM.out (by decide) hne); have m20 := (blk_cell HM2.out 0).trans (rfl : _ = some (Value.int .u8 60)); have m21 := (blk_cell HM2.out 1).trans (rfl : _ = some (Value.bool true)); have m22 := (blk_cell HM2.out 2).trans (rfl : _ = some (Value.string lb)); clear h2 hb2 hk2))
   | (go_at_call 112; refine (HSd.out _ ⟨_, _, _, HR.out⟩ HBW.out).mono ?_; rintro e w3 ⟨rfl, ⟨vo, h3⟩, hb3, hk3⟩; have HR3 := Aside0.mk h3; have HK3 := Aside0.mk (KeepU.of (KeepT.trans HK.out hk3)); have HB3 := Aside0.mk (Below.trans HB.out hb3); have HBW3 := Aside0.mk (Nat.le_trans HBW.out hb3.size); have HM3 := Aside0.mk (hk3.cell HM.out (by decide) hne); obtain ⟨Av, cv, hvo⟩ := Kd.R_slice HR3.out.row; rw [List.length_map] at hvo; subst hvo; have n2 := (blk_cell HM3.out 2).trans (rfl : _ = some (Value.string lb)); have c0 := (blk_cell HR3.out.bld.blk 0).trans (rfl : _ = some (Value.slice Av out.length cv)); have cz0 := Lib.frozen_of_heap HR3.out.bld.blk 0; have c1 := (blk_cell HR3.out.bld.blk 1).trans (rfl : _ = some (Value.string now.f0)); have cz1 := Lib.frozen_of_heap HR3.out.bld.blk 1; have c2 := (blk_cell HR3.out.bld.blk 2).trans (rfl : _ = some (Value.string now.f1)); have cz2 := Lib.frozen_of_heap HR3.out.bld.blk 2; have c3 := (blk_cell HR3.out.bld.blk 3).trans (rfl : _ = some (Value.string now.f2)); have cz3 := Lib.frozen_of_heap HR3.out.bld.blk 3; have c4 := (blk_cell HR3.out.bld.blk 4).trans (rfl : _ = some (Value.bool now.f3)); have cz4 := Lib.frozen_of_heap HR3.out.bld.blk 4; have c5 := (blk_cell HR3.out.bld.blk 5).trans (rfl : _ = some (Value.string now.f4)); have cz5 := Lib.frozen_of_heap HR3.out.bld.blk 5; have c6 := (blk_cell HR3.out.bld.blk 6).trans (rfl : _ = some (Value.string now.f5)); have cz6 := Lib.frozen_of_heap HR3.out.bld.blk 6; have c7 := (blk_cell HR3.out.bld.blk 7).trans (rfl : _ = some (Value.string now.f6)); have cz7 := Lib.frozen_of_heap HR3.out.bld.blk 7; have c8 := (blk_cell HR3.out.bld.blk 8).trans (rfl : _ = some (Value.string now.f7)); have cz8 := Lib.frozen_of_heap HR3.out.bld.blk 8; have c9 := (blk_cell HR3.out.bld.blk 9).trans (rfl : _ = some (Value.bool now.f8)); have cz9 := Lib.frozen_of_heap HR3.out.bld.blk 9; have c10 := (blk_cell HR3.out.bld.blk 10).trans (rfl : _ = some (Value.int .i64 0)); have cz10 := Lib.frozen_of_heap HR3.out.bld.blk 10; have c11 := (blk_cell HR3.out.bld.blk 11).trans (rfl : _ = some (Value.pointer none)); have cz11 := Lib.frozen_of_heap HR3.out.bld.blk 11; have c12 := (blk_cell HR3.out.bld.blk 12).trans (rfl : _ = some (Value.slice none 0 0)); have cz12 := Lib.frozen_of_heap HR3.out.bld.blk 12; have hne2 := hne; have HFr : Aside0 (∀ j, w3.heap.size ≤ j → j ≠ b) := ⟨fun j hj e => by have := HR3.out.bld.lt; omega⟩; clear h3 hb3 hk3)
   | (at_builtin; (refine Kd.R_append k106 (w0 := w) B rfl (.tmp 44) (.tmp 47) 28 106 (.agg #[.string ⟨#[]⟩, .string ⟨#[]⟩, .string ⟨#[]⟩, .bool false, .string ⟨#[]⟩, .string ⟨#[]⟩, .string ⟨#[]⟩, .string ⟨#[]⟩, .bool false]) 128 rfl Try.underlying28 part_inf rfl (by decide) (by omega) (.slice Av out.length cv) (out.map to106) (to106 (textP s)) [.string ⟨#[]⟩, .string ⟨#[]⟩, .string ⟨#[]⟩, .bool false, .string s, .string ⟨#[]⟩, .string ⟨#[]⟩, .string ⟨#[]⟩, .bool false] (fun j => j ≠ b) (fun _ => False) rfl rfl (k106_mkM _ _ _ _) (fun _ hk => hk.elim) HFr.out HR3.out.row HB3.out HBW3.out (by omega) ?_; intro v1 w4 ho4 hb4 hg4 hat4; obtain ⟨Aw, cw, hv1⟩ := Kd.R_slice ho4; rw [List.length_append, List.length_map, List.length_singleton] at hv1; subst hv1; have HF4 := Aside0.mk ((hg4.block b HR3.out.bld.lt (fun e => HR3.out.row.1 b e.symm rfl)).trans HR3.out.bld.blk); have HM4 := Aside0.mk ((hg4.block nb (Array.getElem?_eq_some_iff.1 HM3.out).1 (Kd.R_ne HR3.out.row HM3.out (by decide))).trans HM3.out); have HR4 := Aside0.mk ho4; have HK4 := Aside0.mk (HK3.out.grown hg4 (Kd.R_typed HR3.out.row)); have HB4 := Aside0.mk hb4; have p2 := (blk_cell HM4.out 2).trans (rfl : _ = some (Value.string lb)); have d0 := (blk_cell HF4.out 0).trans (rfl : _ = some (Value.slice Av out.length cv)); have dz0 := Lib.frozen_of_heap HF4.out 0; have d1 := (blk_cell HF4.out 1).trans (rfl : _ = some (Value.string now.f0)); have dz1 := Lib.frozen_of_heap HF4.out 1; have d2 := (blk_cell HF4.out 2).trans (rfl : _ = some (Value.string now.f1)); have dz2 := Lib.frozen_of_heap HF4.out 2; have d3 := (blk_cell HF4.out 3).trans (rfl : _ = some (Value.string now.f2)); have dz3 := Lib.frozen_of_heap HF4.out 3; have d4 := (blk_cell HF4.out 4).trans (rfl : _ = some (Value.bool now.f3)); have dz4 := Lib.frozen_of_heap HF4.out 4; have d5 := (blk_cell HF4.out 5).trans (rfl : _ = some (Value.string now.f4)); have dz5 := Lib.frozen_of_heap HF4.out 5; have d6 := (blk_cell HF4.out 6).trans (rfl : _ = some (Value.string now.f5)); have dz6 := Lib.frozen_of_heap HF4.out 6; have d7 := (blk_cell HF4.out 7).trans (rfl : _ = some (Value.string now.f6)); have dz7 := Lib.frozen_of_heap HF4.out 7; have d8 := (blk_cell HF4.out 8).trans (rfl : _ = some (Value.string now.f7)); have dz8 := Lib.frozen_of_heap HF4.out 8; have d9 := (blk_cell HF4.out 9).trans (rfl : _ = some (Value.bool now.f8)); have dz9 := Lib.frozen_of_heap HF4.out 9; have d10 := (blk_cell HF4.out 10).trans (rfl : _ = some (Value.int .i64 0)); have dz10 := Lib.frozen_of_heap HF4.out 10; have d11 := (blk_cell HF4.out 11).trans (rfl : _ = some (Value.pointer none)); have dz11 := Lib.frozen_of_heap HF4.out 11; have d12 := (blk_cell HF4.out 12).trans (rfl : _ = some (Value.slice none 0 0)); have dz12 := Lib.frozen_of_heap HF4.out 12; clear ho4 hb4 hg4 hat4)))
  go_ret
  refine ⟨rfl, rd_new (w := w4) hlo.out ?_ (by rw [List.map_append]; exact HR4.out) (fun k hk => by simp [World.setCell, Array.getElem?_modify, Ne.symm hk]), ?_, ?_⟩
  ·simp [World.setCell, Array.getElem?_modify, HF4.out, openP]
  rotate_left
  ·(repeat (first | (with_reducible exact HK4.out) | (with_reducible refine KeepU.drew ?_) | (with_reducible refine KeepU.set ?_ _ _)))
  ·repeat (first | (with_reducible exact HB4.out) | (with_reducible refine Below.setCell (p := ⟨b, _, none⟩) ?_ hlo.out _))
 ·refine (rd_to 60 1 HR.out (by show (0 : Int) ≤ 0 ∧ (0 : Int) ≤ 3; omega) rfl).mono ?_
  rintro e w1 ⟨rfl, rfl⟩
  go_wp2_with (first
   | (go_at_call 140; (refine (HLk.out _ ⟨_, _, _, HR.out⟩ HBW.out (by first | trivial | rfl)).mono ?_; rintro e w2 ⟨rfl, ⟨vo2, p2, v2, h2⟩, hb2, hk2⟩; have HR2 := Aside0.mk h2; have HK2 := Aside0.mk (KeepT.trans HK.out hk2); have HB2 := Aside0.mk (Below.trans HB.out hb2); have HBW2 := Aside0.mk (Nat.le_trans HBW.out hb2.size); have HM2 := Aside0.mk (hk2.cell HM.out (by decide) hne); have m20 := (blk_cell HM2.out 0).trans (rfl : _ = some (Value.int .u8 60)); have m21 := (blk_cell HM2.out 1).trans (rfl : _ = some (Value.bool true)); have m22 := (blk_cell HM2.out 2).trans (rfl : _ = some (Value.string lb)); clear h2 hb2 hk2))
   | (go_at_call 112; refine (HSd.out _ ⟨_, _, _, HR2.out⟩ HBW2.out).mono ?_; rintro e w3 ⟨rfl, ⟨vo, h3⟩, hb3, hk3⟩; have HR3 := Aside0.mk h3; have HK3 := Aside0.mk (KeepU.of (KeepT.trans HK2.out hk3)); have HB3 := Aside0.mk (Below.trans HB2.out hb3); have HBW3 := Aside0.mk (Nat.le_trans HBW2.out hb3.size); have HM3 := Aside0.mk (hk3.cell HM2.out (by decide) hne); obtain ⟨Av, cv, hvo⟩ := Kd.R_slice HR3.out.row; rw [List.length_map] at hvo; subst hvo; have n2 := (blk_cell HM3.out 2).trans (rfl : _ = some (Value.string lb)); have c0 := (blk_cell HR3.out.bld.blk 0).trans (rfl : _ = some (Value.slice Av out.length cv)); have cz0 := Lib.frozen_of_heap HR3.out.bld.blk 0; have c1 := (blk_cell HR3.out.bld.blk 1).trans (rfl : _ = some (Value.string now.f0)); have cz1 := Lib.frozen_of_heap HR3.out.bld.blk 1; have c2 := (blk_cell HR3.out.bld.blk 2).trans (rfl : _ = some (Value.string now.f1)); have cz2 := Lib.frozen_of_heap HR3.out.bld.blk 2; have c3 := (blk_cell HR3.out.bld.blk 3).trans (rfl : _ = some (Value.string now.f2)); have cz3 := Lib.frozen_of_heap HR3.out.bld.blk 3; have c4 := (blk_cell HR3.out.bld.blk 4).trans (rfl : _ = some (Value.bool now.f3)); have cz4 := Lib.frozen_of_heap HR3.out.bld.blk 4; have c5 := (blk_cell HR3.out.bld.blk 5).trans (rfl : _ = some (Value.string now.f4)); have cz5 := Lib.frozen_of_heap HR3.out.bld.blk 5; have c6 := (blk_cell HR3.out.bld.blk 6).trans (rfl : _ = some (Value.string now.f5)); have cz6 := Lib.frozen_of_heap HR3.out.bld.blk 6; have c7 := (blk_cell HR3.out.bld.blk 7).trans (rfl : _ = some (Value.string now.f6)); have cz7 := Lib.frozen_of_heap HR3.out.bld.blk 7; have c8 := (blk_cell HR3.out.bld.blk 8).trans (rfl : _ = some (Value.string now.f7)); have cz8 := Lib.frozen_of_heap HR3.out.bld.blk 8; have c9 := (blk_cell HR3.out.bld.blk 9).trans (rfl : _ = some (Value.bool now.f8)); have cz9 := Lib.frozen_of_heap HR3.out.bld.blk 9; have c10 := (blk_cell HR3.out.bld.blk 10).trans (rfl : _ = some (Value.int .i64 0)); have cz10 := Lib.frozen_of_heap HR3.out.bld.blk 10; have c11 := (blk_cell HR3.out.bld.blk 11).trans (rfl : _ = some (Value.pointer none)); have cz11 := Lib.frozen_of_heap HR3.out.bld.blk 11; have c12 := (blk_cell HR3.out.bld.blk 12).trans (rfl : _ = some (Value.slice none 0 0)); have cz12 := Lib.frozen_of_heap HR3.out.bld.blk 12; have hne2 := hne; have HFr : Aside0 (∀ j, w3.heap.size ≤ j → j ≠ b) := ⟨fun j hj e => by have := HR3.out.bld.lt; omega⟩; clear h3 hb3 hk3)
   | (at_builtin; (refine Kd.R_append k106 (w0 := w) B rfl (.tmp 44) (.tmp 47) 28 106 (.agg #[.string ⟨#[]⟩, .string ⟨#[]⟩, .string ⟨#[]⟩, .bool false, .string ⟨#[]⟩, .string ⟨#[]⟩, .string ⟨#[]⟩, .string ⟨#[]⟩, .bool false]) 128 rfl Try.underlying28 part_inf rfl (by decide) (by omega) (.slice Av out.length cv) (out.map to106) (to106 (textP s)) [.string ⟨#[]⟩, .string ⟨#[]⟩, .string ⟨#[]⟩, .bool false, .string s, .string ⟨#[]⟩, .string ⟨#[]⟩, .string ⟨#[]⟩, .bool false] (fun j => j ≠ b) (fun _ => False) rfl rfl (k106_mkM _ _ _ _) (fun _ hk => hk.elim) HFr.out HR3.out.row HB3.out HBW3.out (by omega) ?_; intro v1 w4 ho4 hb4 hg4 hat4; obtain ⟨Aw, cw, hv1⟩ := Kd.R_slice ho4; rw [List.length_append, List.length_map, List.length_singleton] at hv1; subst hv1; have HF4 := Aside0.mk ((hg4.block b HR3.out.bld.lt (fun e => HR3.out.row.1 b e.symm rfl)).trans HR3.out.bld.blk); have HM4 := Aside0.mk ((hg4.block nb (Array.getElem?_eq_some_iff.1 HM3.out).1 (Kd.R_ne HR3.out.row HM3.out (by decide))).trans HM3.out); have HR4 := Aside0.mk ho4; have HK4 := Aside0.mk (HK3.out.grown hg4 (Kd.R_typed HR3.out.row)); have HB4 := Aside0.mk hb4; have p2 := (blk_cell HM4.out 2).trans (rfl : _ = some (Value.string lb)); have d0 := (blk_cell HF4.out 0).trans (rfl : _ = some (Value.slice Av out.length cv)); have dz0 := Lib.frozen_of_heap HF4.out 0; have d1 := (blk_cell HF4.out 1).trans (rfl : _ = some (Value.string now.f0)); have dz1 := Lib.frozen_of_heap HF4.out 1; have d2 := (blk_cell HF4.out 2).trans (rfl : _ = some (Value.string now.f1)); have dz2 := Lib.frozen_of_heap HF4.out 2; have d3 := (blk_cell HF4.out 3).trans (rfl : _ = some (Value.string now.f2)); have dz3 := Lib.frozen_of_heap HF4.out 3; have d4 := (blk_cell HF4.out 4).trans (rfl : _ = some (Value.bool now.f3)); have dz4 := Lib.frozen_of_heap HF4.out 4; have d5 := (blk_cell HF4.out 5).trans (rfl : _ = some (Value.string now.f4)); have dz5 := Lib.frozen_of_heap HF4.out 5; have d6 := (blk_cell HF4.out 6).trans (rfl : _ = some (Value.string now.f5)); have dz6 := Lib.frozen_of_heap HF4.out 6; have d7 := (blk_cell HF4.out 7).trans (rfl : _ = some (Value.string now.f6)); have dz7 := Lib.frozen_of_heap HF4.out 7; have d8 := (blk_cell HF4.out 8).trans (rfl : _ = some (Value.string now.f7)); have dz8 := Lib.frozen_of_heap HF4.out 8; have d9 := (blk_cell HF4.out 9).trans (rfl : _ = some (Value.bool now.f8)); have dz9 := Lib.frozen_of_heap HF4.out 9; have d10 := (blk_cell HF4.out 10).trans (rfl : _ = some (Value.int .i64 0)); have dz10 := Lib.frozen_of_heap HF4.out 10; have d11 := (blk_cell HF4.out 11).trans (rfl : _ = some (Value.pointer none)); have dz11 := Lib.frozen_of_heap HF4.out 11; have d12 := (blk_cell HF4.out 12).trans (rfl : _ = some (Value.slice none 0 0)); have dz12 := Lib.frozen_of_heap HF4.out 12; clear ho4 hb4 hg4 hat4)))
  go_ret
  refine ⟨rfl, rd_new (w := w4) hlo.out ?_ (by rw [List.map_append]; exact HR4.out) (fun k hk => by simp [World.setCell, Array.getElem?_modify, Ne.symm hk]), ?_, ?_⟩
  ·simp [World.setCell, Array.getElem?_modify, HF4.out, openP]
  rotate_left
  ·(repeat (first | (with_reducible exact HK4.out) | (with_reducible refine KeepU.drew ?_) | (with_reducible refine KeepU.set ?_ _ _)))
  ·repeat (first | (with_reducible exact HB4.out) | (with_reducible refine Below.setCell (p := ⟨b, _, none⟩) ?_ hlo.out _))
set_option maxHeartbeats 16000000 in
set_option maxRecDepth 100000 in
theorem rd_ok_1_124 {B b : Nat} {out : List S109} {now : S109} {buf : List UInt8} {w : World} (fl : Bool) (lb : ByteArray) (h : Rd B b ⟨out, now, 1, buf⟩ w) (hf : ¬ (fl = true ∧ lacksP buf = false)) (hn : buf.length ≤ 4000000000) (hout : out.length ≤ 100000000000) (hBw : B ≤ w.heap.size) :
  Calls Try.prog 111 #[.pointer (some ⟨b, 0, none⟩), .agg #[.int .u8 124, .bool fl, .string lb]] w fun e w' => e = .returned (.int .i64 0) ∧ Rd B b ⟨out, hasP (leftP now (sideP fl buf)) lb, 2, []⟩ w' ∧ Below B w w' ∧ KeepU b w w' := by
 obtain ⟨vo0, p0, v0, h⟩ := h
 have hlen : (out.map to106).length = out.length := List.length_map ..
 have HH := Aside0.mk h
 have hlo : Aside0 (B ≤ b) := ⟨h.bld.lo⟩
 have HSd := Aside0.mk (fun W (hr : Rd B b ⟨out, now, 1, buf⟩ W) hBW => rd_side (w := W) fl hr hn hBW)
 have HLk : Aside0 (∀ W, Rd B b ⟨out, now, 1, buf⟩ W → B ≤ W.heap.size → fl = true → Calls Try.prog 140 #[.pointer (some ⟨b, 0, none⟩)] W fun e w' => e = .returned (.bool true) ∧ Rd B b ⟨out, now, 1, buf⟩ w' ∧ Below B W w' ∧ KeepT b W w') := ⟨fun W hr hBW he => by
  have := rd_lacks hr hn hBW
  have hl : lacksP buf = true := by
   cases hq : lacksP buf with
   | true => rfl
   | false => exact absurd ⟨he, hq⟩ hf
  rw [show lacksP (⟨out, now, 1, buf⟩ : PSt).buf = true from hl] at this
  exact this⟩
 generalize hs : sideP fl buf = s
 rw [show sideP fl (⟨out, now, 1, buf⟩ : PSt).buf = s from hs] at HSd
 have HBl : Aside0 (∀ o, Below B w (w.alloc o)) := ⟨fun o => (Below.refl B w).alloc hBw o⟩
 have HBZ : Aside0 (∀ o, B ≤ (w.alloc o).heap.size) := ⟨fun o => Nat.le_trans hBw (below_alloc (Below.refl w.heap.size w) o).size⟩
 clear h hf hn hs
 go_enter Try.func111, Try.ntmps111
 go_wp2_with fail
 have HM := Aside0.mk (World.alloc_heap_new w (.cells #[.int .u8 124, .bool fl, .string lb] 62))
 have HR := Aside0.mk (HH.out.below (below_alloc (Below.refl w.heap.size w) (.cells #[.int .u8 124, .bool fl, .string lb] 62)))
 have HB := Aside0.mk (HBl.out (.cells #[.int .u8 124, .bool fl, .string lb] 62))
 have HBW := Aside0.mk (HBZ.out (.cells #[.int .u8 124, .bool fl, .string lb] 62))
 have hne : w.heap.size ≠ b := by have := HH.out.bld.lt; omega
 have HK := Aside0.mk (KeepT.below (b := b) (below_alloc (Below.refl w.heap.size w) (.cells #[.int .u8 124, .bool fl, .string lb] 62)))
 clear HBl HBZ HH hBw
 generalize w.alloc (.cells #[.int .u8 124, .bool fl, .string lb] 62) = W at *
 generalize w.heap.size = nb at *
 have m0 := (blk_cell HM.out 0).trans (rfl : _ = some (Value.int .u8 124))
 have m1 := (blk_cell HM.out 1).trans (rfl : _ = some (Value.bool fl))
 have m2 := (blk_cell HM.out 2).trans (rfl : _ = some (Value.string lb))
 cases fl
 ·refine (rd_to 124 2 HR.out (by show (0 : Int) ≤ 1 ∧ (1 : Int) ≤ 3; omega) rfl).mono ?_
  rintro e w1 ⟨rfl, rfl⟩
  go_wp2_with (first
   | (go_at_call 140; (refine (HLk.out _ ⟨_, _, _, HR.out⟩ HBW.out (by first | trivial | rfl)).mono ?_; rintro e w2 ⟨rfl, ⟨vo2, p2, v2, h2⟩, hb2, hk2⟩; have HR2 := Aside0.mk h2; have HK2 := Aside0.mk (KeepT.trans HK.out hk2); have HB2 := Aside0.mk (Below.trans HB.out hb2); have HBW2 := Aside0.mk (Nat.le_trans HBW.out hb2.size); have HM2 := Aside0.mk (hk2.cell HM.out (by decide) hne); have m20 := (blk_cell HM2.out 0).trans (rfl : _ = some (Value.int .u8 124)); have m21 := (blk_cell HM2.out 1).trans (rfl : _ = some (Value.bool true)); have m22 := (blk_cell HM2.out 2).trans (rfl : _ = some (Value.string lb)); clear h2 hb2 hk2))
   | (go_at_call 112; refine (HSd.out _ ⟨_, _, _, HR.out⟩ HBW.out).mono ?_; rintro e w3 ⟨rfl, ⟨vo, h3⟩, hb3, hk3⟩; have HR3 := Aside0.mk h3; have HK3 := Aside0.mk (KeepU.of (KeepT.trans HK.out hk3)); have HB3 := Aside0.mk (Below.trans HB.out hb3); have HBW3 := Aside0.mk (Nat.le_trans HBW.out hb3.size); have HM3 := Aside0.mk (hk3.cell HM.out (by decide) hne); obtain ⟨Av, cv, hvo⟩ := Kd.R_slice HR3.out.row; rw [List.length_map] at hvo; subst hvo; have n2 := (blk_cell HM3.out 2).trans (rfl : _ = some (Value.string lb)); have c0 := (blk_cell HR3.out.bld.blk 0).trans (rfl : _ = some (Value.slice Av out.length cv)); have cz0 := Lib.frozen_of_heap HR3.out.bld.blk 0; have c1 := (blk_cell HR3.out.bld.blk 1).trans (rfl : _ = some (Value.string now.f0)); have cz1 := Lib.frozen_of_heap HR3.out.bld.blk 1; have c2 := (blk_cell HR3.out.bld.blk 2).trans (rfl : _ = some (Value.string now.f1)); have cz2 := Lib.frozen_of_heap HR3.out.bld.blk 2; have c3 := (blk_cell HR3.out.bld.blk 3).trans (rfl : _ = some (Value.string now.f2)); have cz3 := Lib.frozen_of_heap HR3.out.bld.blk 3; have c4 := (blk_cell HR3.out.bld.blk 4).trans (rfl : _ = some (Value.bool now.f3)); have cz4 := Lib.frozen_of_heap HR3.out.bld.blk 4; have c5 := (blk_cell HR3.out.bld.blk 5).trans (rfl : _ = some (Value.string now.f4)); have cz5 := Lib.frozen_of_heap HR3.out.bld.blk 5; have c6 := (blk_cell HR3.out.bld.blk 6).trans (rfl : _ = some (Value.string now.f5)); have cz6 := Lib.frozen_of_heap HR3.out.bld.blk 6; have c7 := (blk_cell HR3.out.bld.blk 7).trans (rfl : _ = some (Value.string now.f6)); have cz7 := Lib.frozen_of_heap HR3.out.bld.blk 7; have c8 := (blk_cell HR3.out.bld.blk 8).trans (rfl : _ = some (Value.string now.f7)); have cz8 := Lib.frozen_of_heap HR3.out.bld.blk 8; have c9 := (blk_cell HR3.out.bld.blk 9).trans (rfl : _ = some (Value.bool now.f8)); have cz9 := Lib.frozen_of_heap HR3.out.bld.blk 9; have c10 := (blk_cell HR3.out.bld.blk 10).trans (rfl : _ = some (Value.int .i64 1)); have cz10 := Lib.frozen_of_heap HR3.out.bld.blk 10; have c11 := (blk_cell HR3.out.bld.blk 11).trans (rfl : _ = some (Value.pointer none)); have cz11 := Lib.frozen_of_heap HR3.out.bld.blk 11; have c12 := (blk_cell HR3.out.bld.blk 12).trans (rfl : _ = some (Value.slice none 0 0)); have cz12 := Lib.frozen_of_heap HR3.out.bld.blk 12; have hne2 := hne; have HFr : Aside0 (∀ j, w3.heap.size ≤ j → j ≠ b) := ⟨fun j hj e => by have := HR3.out.bld.lt; omega⟩; clear h3 hb3 hk3))
  have HF5 : Aside0 ((w3.setCell ⟨b, 6, none⟩ (.string s)).heap[b]? = some (.cells (rdC (.slice Av out.length cv) (leftP now s) 1 (.pointer none) (.slice none 0 0)) 155 (0, 0))) := ⟨by simp [World.setCell, Array.getElem?_modify, HR3.out.bld.blk, leftP]⟩
  have HK5 : Aside0 (∀ k, k ≠ b → (w3.setCell ⟨b, 6, none⟩ (.string s)).heap[k]? = w3.heap[k]?) := ⟨fun k hk => Below.heap_setCell _ _ _ _ hk⟩
  have HB5 := Aside0.mk (Below.setCell (p := ⟨b, 6, none⟩) HB3.out hlo.out (.string s))
  have HM5 := Aside0.mk ((HK5.out nb hne).trans HM3.out)
  have HU5 := Aside0.mk (HK3.out.set 6 (.string s))
  generalize w3.setCell ⟨b, 6, none⟩ (.string s) = w5 at *
  have e2 := (blk_cell HM5.out 2).trans (rfl : _ = some (Value.string lb))
  have d2 := (blk_cell HF5.out 2).trans (rfl : _ = some (Value.string now.f1)); have dz2 := Lib.frozen_of_heap HF5.out 2; have d9 := (blk_cell HF5.out 9).trans (rfl : _ = some (Value.bool now.f8)); have dz9 := Lib.frozen_of_heap HF5.out 9; have d10 := (blk_cell HF5.out 10).trans (rfl : _ = some (Value.int .i64 1)); have dz10 := Lib.frozen_of_heap HF5.out 10
  have hmx : Try.prog.follows Departure.mixedOrders = true := by kernel_rfl
  have hne' : b ≠ nb := fun e => hne e.symm
  go_region_o
  all_goals go_wp2
  all_goals go_ret
  all_goals refine ⟨rfl, rd_new (w := w3) hlo.out ?_ HR3.out.row (fun k hk => ?_), ?_, ?_⟩
  all_goals first
   | (simp [World.setCell, World.drew, Array.getElem?_modify, HF5.out, leftP, hasP]; done)
   | (simp [World.setCell, World.drew, Array.getElem?_modify, Ne.symm hk, HK5.out k hk]; done)
   | ((with_reducible refine KeepU.drew ?_); (repeat (first | (with_reducible exact HU5.out) | (with_reducible refine KeepU.set ?_ _ _))); done)
   | (refine below_drew1 ?_; repeat (first | (with_reducible exact HB5.out) | (with_reducible refine Below.setCell (p := ⟨b, _, none⟩) ?_ hlo.out _)))
 ·refine (rd_to 124 2 HR.out (by show (0 : Int) ≤ 1 ∧ (1 : Int) ≤ 3; omega) rfl).mono ?_
  rintro e w1 ⟨rfl, rfl⟩
  go_wp2_with (first
   | (go_at_call 140; (refine (HLk.out _ ⟨_, _, _, HR.out⟩ HBW.out (by first | trivial | rfl)).mono ?_; rintro e w2 ⟨rfl, ⟨vo2, p2, v2, h2⟩, hb2, hk2⟩; have HR2 := Aside0.mk h2; have HK2 := Aside0.mk (KeepT.trans HK.out hk2); have HB2 := Aside0.mk (Below.trans HB.out hb2); have HBW2 := Aside0.mk (Nat.le_trans HBW.out hb2.size); have HM2 := Aside0.mk (hk2.cell HM.out (by decide) hne); have m20 := (blk_cell HM2.out 0).trans (rfl : _ = some (Value.int .u8 124)); have m21 := (blk_cell HM2.out 1).trans (rfl : _ = some (Value.bool true)); have m22 := (blk_cell HM2.out 2).trans (rfl : _ = some (Value.string lb)); clear h2 hb2 hk2))
   | (go_at_call 112; refine (HSd.out _ ⟨_, _, _, HR2.out⟩ HBW2.out).mono ?_; rintro e w3 ⟨rfl, ⟨vo, h3⟩, hb3, hk3⟩; have HR3 := Aside0.mk h3; have HK3 := Aside0.mk (KeepU.of (KeepT.trans HK2.out hk3)); have HB3 := Aside0.mk (Below.trans HB2.out hb3); have HBW3 := Aside0.mk (Nat.le_trans HBW2.out hb3.size); have HM3 := Aside0.mk (hk3.cell HM2.out (by decide) hne); obtain ⟨Av, cv, hvo⟩ := Kd.R_slice HR3.out.row; rw [List.length_map] at hvo; subst hvo; have n2 := (blk_cell HM3.out 2).trans (rfl : _ = some (Value.string lb)); have c0 := (blk_cell HR3.out.bld.blk 0).trans (rfl : _ = some (Value.slice Av out.length cv)); have cz0 := Lib.frozen_of_heap HR3.out.bld.blk 0; have c1 := (blk_cell HR3.out.bld.blk 1).trans (rfl : _ = some (Value.string now.f0)); have cz1 := Lib.frozen_of_heap HR3.out.bld.blk 1; have c2 := (blk_cell HR3.out.bld.blk 2).trans (rfl : _ = some (Value.string now.f1)); have cz2 := Lib.frozen_of_heap HR3.out.bld.blk 2; have c3 := (blk_cell HR3.out.bld.blk 3).trans (rfl : _ = some (Value.string now.f2)); have cz3 := Lib.frozen_of_heap HR3.out.bld.blk 3; have c4 := (blk_cell HR3.out.bld.blk 4).trans (rfl : _ = some (Value.bool now.f3)); have cz4 := Lib.frozen_of_heap HR3.out.bld.blk 4; have c5 := (blk_cell HR3.out.bld.blk 5).trans (rfl : _ = some (Value.string now.f4)); have cz5 := Lib.frozen_of_heap HR3.out.bld.blk 5; have c6 := (blk_cell HR3.out.bld.blk 6).trans (rfl : _ = some (Value.string now.f5)); have cz6 := Lib.frozen_of_heap HR3.out.bld.blk 6; have c7 := (blk_cell HR3.out.bld.blk 7).trans (rfl : _ = some (Value.string now.f6)); have cz7 := Lib.frozen_of_heap HR3.out.bld.blk 7; have c8 := (blk_cell HR3.out.bld.blk 8).trans (rfl : _ = some (Value.string now.f7)); have cz8 := Lib.frozen_of_heap HR3.out.bld.blk 8; have c9 := (blk_cell HR3.out.bld.blk 9).trans (rfl : _ = some (Value.bool now.f8)); have cz9 := Lib.frozen_of_heap HR3.out.bld.blk 9; have c10 := (blk_cell HR3.out.bld.blk 10).trans (rfl : _ = some (Value.int .i64 1)); have cz10 := Lib.frozen_of_heap HR3.out.bld.blk 10; have c11 := (blk_cell HR3.out.bld.blk 11).trans (rfl : _ = some (Value.pointer none)); have cz11 := Lib.frozen_of_heap HR3.out.bld.blk 11; have c12 := (blk_cell HR3.out.bld.blk 12).trans (rfl : _ = some (Value.slice none 0 0)); have cz12 := Lib.frozen_of_heap HR3.out.bld.blk 12; have hne2 := hne; have HFr : Aside0 (∀ j, w3.heap.size ≤ j → j ≠ b) := ⟨fun j hj e => by have := HR3.out.bld.lt; omega⟩; clear h3 hb3 hk3))
  have HF5 : Aside0 ((w3.setCell ⟨b, 6, none⟩ (.string s)).heap[b]? = some (.cells (rdC (.slice Av out.length cv) (leftP now s) 1 (.pointer none) (.slice none 0 0)) 155 (0, 0))) := ⟨by simp [World.setCell, Array.getElem?_modify, HR3.out.bld.blk, leftP]⟩
  have HK5 : Aside0 (∀ k, k ≠ b → (w3.setCell ⟨b, 6, none⟩ (.string s)).heap[k]? = w3.heap[k]?) := ⟨fun k hk => Below.heap_setCell _ _ _ _ hk⟩
  have HB5 := Aside0.mk (Below.setCell (p := ⟨b, 6, none⟩) HB3.out hlo.out (.string s))
  have HM5 := Aside0.mk ((HK5.out nb hne).trans HM3.out)
  have HU5 := Aside0.mk (HK3.out.set 6 (.string s))
  generalize w3.setCell ⟨b, 6, none⟩ (.string s) = w5 at *
  have e2 := (blk_cell HM5.out 2).trans (rfl : _ = some (Value.string lb))
  have d2 := (blk_cell HF5.out 2).trans (rfl : _ = some (Value.string now.f1)); have dz2 := Lib.frozen_of_heap HF5.out 2; have d9 := (blk_cell HF5.out 9).trans (rfl : _ = some (Value.bool now.f8)); have dz9 := Lib.frozen_of_heap HF5.out 9; have d10 := (blk_cell HF5.out 10).trans (rfl : _ = some (Value.int .i64 1)); have dz10 := Lib.frozen_of_heap HF5.out 10
  have hmx : Try.prog.follows Departure.mixedOrders = true := by kernel_rfl
  have hne' : b ≠ nb := fun e => hne e.symm
  go_region_o
  all_goals go_wp2
  all_goals go_ret
  all_goals refine ⟨rfl, rd_new (w := w3) hlo.out ?_ HR3.out.row (fun k hk => ?_), ?_, ?_⟩
  all_goals first
   | (simp [World.setCell, World.drew, Array.getElem?_modify, HF5.out, leftP, hasP]; done)
   | (simp [World.setCell, World.drew, Array.getElem?_modify, Ne.symm hk, HK5.out k hk]; done)
   | ((with_reducible refine KeepU.drew ?_); (repeat (first | (with_reducible exact HU5.out) | (with_reducible refine KeepU.set ?_ _ _))); done)
   | (refine below_drew1 ?_; repeat (first | (with_reducible exact HB5.out) | (with_reducible refine Below.setCell (p := ⟨b, _, none⟩) ?_ hlo.out _)))
end Go.Proofs.Ytfiamddinkokbaa.F
end
