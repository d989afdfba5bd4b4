/- Texts joined into one file (wip/tools/pack.py): Rd362, Parse -/
import Derived.Test.YtfiamddinkokbaaPB30
import Derived.Test.YtfiamddinkokbaaPB31
import Derived.Test.YtfiamddinkokbaaPB27
set_option linter.unusedVariables false
set_option linter.unusedSimpArgs false
section
namespace Go.Proofs.Ytfiamddinkokbaa.F
open Go.RowKit Go.Shelf Go.Proofs.YtfiamddinkokbaaW.PrintWords
set_option maxHeartbeats 16000000 in
set_option maxRecDepth 100000 in
theorem rd_ok_3_62 {B b : Nat} {out : List S109} {now : S109} {buf : List UInt8} {w : World} (fl : Bool) (lb : ByteArray) (h : Rd B b ⟨out, now, 3, buf⟩ w) (hf : ¬ (fl = true ∧ lacksP buf = false)) (hn : buf.length ≤ 4000000000) (hout : out.length ≤ 100000000000) (hBw : B ≤ w.heap.size) :
  Calls Try.prog 111 #[.pointer (some ⟨b, 0, none⟩), .agg #[.int .u8 62, .bool fl, .string lb]] w fun e w' => e = .returned (.int .i64 0) ∧ Rd B b ⟨out ++ [closeP now (sideP fl buf) lb], closeP now (sideP fl buf) lb, 0, []⟩ w' ∧ Below B w w' ∧ KeepU b w w' := by
 obtain ⟨vo0, p0, v0, h⟩ := h
 have hlen : (out.map to106).length = out.length := List.length_map ..
 have HH := Aside0.mk h
 have hlo : Aside0 (B ≤ b) := ⟨h.bld.lo⟩
 have HSd := Aside0.mk (fun W (hr : Rd B b ⟨out, now, 3, buf⟩ W) hBW => rd_side (w := W) fl hr hn hBW)
 have HLk : Aside0 (∀ W, Rd B b ⟨out, now, 3, buf⟩ W → B ≤ W.heap.size → fl = true → Calls Try.prog 140 #[.pointer (some ⟨b, 0, none⟩)] W fun e w' => e = .returned (.bool true) ∧ Rd B b ⟨out, now, 3, buf⟩ w' ∧ Below B W w' ∧ KeepT b W w') := ⟨fun W hr hBW he => by
  have := rd_lacks hr hn hBW
  have hl : lacksP buf = true := by
   cases hq : lacksP buf with
   | true => rfl
   | false => exact absurd ⟨he, hq⟩ hf
  rw [show lacksP (⟨out, now, 3, buf⟩ : PSt).buf = true from hl] at this
  exact this⟩
 generalize hs : sideP fl buf = s
 rw [show sideP fl (⟨out, now, 3, buf⟩ : PSt).buf = s from hs] at HSd
 have HBl : Aside0 (∀ o, Below B w (w.alloc o)) := ⟨fun o => (Below.refl B w).alloc hBw o⟩
 have HBZ : Aside0 (∀ o, B ≤ (w.alloc o).heap.size) := ⟨fun o => Nat.le_trans hBw (below_alloc (Below.refl w.heap.size w) o).size⟩
 clear h hf hn hs
 go_enter Try.func111, Try.ntmps111
 go_wp2_with fail
 have HM := Aside0.mk (World.alloc_heap_new w (.cells #[.int .u8 62, .bool fl, .string lb] 62))
 have HR := Aside0.mk (HH.out.below (below_alloc (Below.refl w.heap.size w) (.cells #[.int .u8 62, .bool fl, .string lb] 62)))
 have HB := Aside0.mk (HBl.out (.cells #[.int .u8 62, .bool fl, .string lb] 62))
 have HBW := Aside0.mk (HBZ.out (.cells #[.int .u8 62, .bool fl, .string lb] 62))
 have hne : w.heap.size ≠ b := by have := HH.out.bld.lt; omega
 have HK := Aside0.mk (KeepT.below (b := b) (below_alloc (Below.refl w.heap.size w) (.cells #[.int .u8 62, .bool fl, .string lb] 62)))
 clear HBl HBZ HH hBw
 generalize w.alloc (.cells #[.int .u8 62, .bool fl, .string lb] 62) = W at *
 generalize w.heap.size = nb at *
 have m0 := (blk_cell HM.out 0).trans (rfl : _ = some (Value.int .u8 62))
 have m1 := (blk_cell HM.out 1).trans (rfl : _ = some (Value.bool fl))
 have m2 := (blk_cell HM.out 2).trans (rfl : _ = some (Value.string lb))
 cases fl
 ·refine (rd_to 62 0 HR.out (by show (0 : Int) ≤ 3 ∧ (3 : Int) ≤ 3; omega) rfl).mono ?_
  rintro e w1 ⟨rfl, rfl⟩
  go_wp2_with (first
   | (go_at_call 140; (refine (HLk.out _ ⟨_, _, _, HR.out⟩ HBW.out (by first | trivial | rfl)).mono ?_; rintro e w2 ⟨rfl, ⟨vo2, p2, v2, h2⟩, hb2, hk2⟩; have HR2 := Aside0.mk h2; have HK2 := Aside0.mk (KeepT.trans HK.out hk2); have HB2 := Aside0.mk (Below.trans HB.out hb2); have HBW2 := Aside0.mk (Nat.le_trans HBW.out hb2.size); have HM2 := Aside0.mk (hk2.cell HM.out (by decide) hne); have m20 := (blk_cell HM2.out 0).trans (rfl : _ = some (Value.int .u8 62)); have m21 := (blk_cell HM2.out 1).trans (rfl : _ = some (Value.bool true)); have m22 := (blk_cell HM2.out 2).trans (rfl : _ = some (Value.string lb)); clear h2 hb2 hk2))
   | (go_at_call 112; refine (HSd.out _ ⟨_, _, _, HR.out⟩ HBW.out).mono ?_; rintro e w3 ⟨rfl, ⟨vo, h3⟩, hb3, hk3⟩; have HR3 := Aside0.mk h3; have HK3 := Aside0.mk (KeepU.of (KeepT.trans HK.out hk3)); have HB3 := Aside0.mk (Below.trans HB.out hb3); have HBW3 := Aside0.mk (Nat.le_trans HBW.out hb3.size); have HM3 := Aside0.mk (hk3.cell HM.out (by decide) hne); obtain ⟨Av, cv, hvo⟩ := Kd.R_slice HR3.out.row; rw [List.length_map] at hvo; subst hvo; have n2 := (blk_cell HM3.out 2).trans (rfl : _ = some (Value.string lb)); have c0 := (blk_cell HR3.out.bld.blk 0).trans (rfl : _ = some (Value.slice Av out.length cv)); have cz0 := Lib.frozen_of_heap HR3.out.bld.blk 0; have c1 := (blk_cell HR3.out.bld.blk 1).trans (rfl : _ = some (Value.string now.f0)); have cz1 := Lib.frozen_of_heap HR3.out.bld.blk 1; have c2 := (blk_cell HR3.out.bld.blk 2).trans (rfl : _ = some (Value.string now.f1)); have cz2 := Lib.frozen_of_heap HR3.out.bld.blk 2; have c3 := (blk_cell HR3.out.bld.blk 3).trans (rfl : _ = some (Value.string now.f2)); have cz3 := Lib.frozen_of_heap HR3.out.bld.blk 3; have c4 := (blk_cell HR3.out.bld.blk 4).trans (rfl : _ = some (Value.bool now.f3)); have cz4 := Lib.frozen_of_heap HR3.out.bld.blk 4; have c5 := (blk_cell HR3.out.bld.blk 5).trans (rfl : _ = some (Value.string now.f4)); have cz5 := Lib.frozen_of_heap HR3.out.bld.blk 5; have c6 := (blk_cell HR3.out.bld.blk 6).trans (rfl : _ = some (Value.string now.f5)); have cz6 := Lib.frozen_of_heap HR3.out.bld.blk 6; have c7 := (blk_cell HR3.out.bld.blk 7).trans (rfl : _ = some (Value.string now.f6)); have cz7 := Lib.frozen_of_heap HR3.out.bld.blk 7; have c8 := (blk_cell HR3.out.bld.blk 8).trans (rfl : _ = some (Value.string now.f7)); have cz8 := Lib.frozen_of_heap HR3.out.bld.blk 8; have c9 := (blk_cell HR3.out.bld.blk 9).trans (rfl : _ = some (Value.bool now.f8)); have cz9 := Lib.frozen_of_heap HR3.out.bld.blk 9; have c10 := (blk_cell HR3.out.bld.blk 10).trans (rfl : _ = some (Value.int .i64 3)); have cz10 := Lib.frozen_of_heap HR3.out.bld.blk 10; have c11 := (blk_cell HR3.out.bld.blk 11).trans (rfl : _ = some (Value.pointer none)); have cz11 := Lib.frozen_of_heap HR3.out.bld.blk 11; have c12 := (blk_cell HR3.out.bld.blk 12).trans (rfl : _ = some (Value.slice none 0 0)); have cz12 := Lib.frozen_of_heap HR3.out.bld.blk 12; have hne2 := hne; have HFr : Aside0 (∀ j, w3.heap.size ≤ j → j ≠ b) := ⟨fun j hj e => by have := HR3.out.bld.lt; omega⟩; clear h3 hb3 hk3))
  have hmx : Try.prog.follows Departure.mixedOrders = true := by kernel_rfl
  have hne' : b ≠ nb := fun e => hne e.symm
  go_region_o
  have HF5 : Aside0 ((((w3.setCell ⟨b, 8, none⟩ (.string s)).setCell ⟨b, 3, none⟩ (.string lb)).drew).heap[b]? = some (.cells (rdC (.slice Av out.length cv) (closeP now s lb) 3 (.pointer none) (.slice none 0 0)) 155 (0, 0))) := ⟨by simp [World.setCell, World.drew, Array.getElem?_modify, HR3.out.bld.blk, closeP]⟩
  have HK5 : Aside0 (∀ k, k ≠ b → (((w3.setCell ⟨b, 8, none⟩ (.string s)).setCell ⟨b, 3, none⟩ (.string lb)).drew).heap[k]? = w3.heap[k]?) := ⟨fun k hk => by simp [World.setCell, World.drew, Array.getElem?_modify, Ne.symm hk]⟩
  have HB5 : Aside0 (Below B w (((w3.setCell ⟨b, 8, none⟩ (.string s)).setCell ⟨b, 3, none⟩ (.string lb)).drew)) := ⟨below_drew1 (Below.setCell (p := ⟨b, 3, none⟩) (Below.setCell (p := ⟨b, 8, none⟩) HB3.out hlo.out _) hlo.out _)⟩
  have HU5 : Aside0 (KeepU b w (((w3.setCell ⟨b, 8, none⟩ (.string s)).setCell ⟨b, 3, none⟩ (.string lb)).drew)) := ⟨((HK3.out.set 8 _).set 3 _).drew⟩
  have HS5 : Aside0 ((((w3.setCell ⟨b, 8, none⟩ (.string s)).setCell ⟨b, 3, none⟩ (.string lb)).drew).heap.size = w3.heap.size) := ⟨by simp [World.setCell, World.drew]⟩
  generalize ((w3.setCell ⟨b, 8, none⟩ (.string s)).setCell ⟨b, 3, none⟩ (.string lb)).drew = w5 at *
  have HR5 := Aside0.mk (Kd.R_drew (Kd.R_move HR3.out.row HK5.out))
  have HL5 : Aside0 (B ≤ w5.drew.heap.size) := ⟨by show B ≤ w5.heap.size; rw [HS5.out]; exact HBW3.out⟩
  have HFr5 : Aside0 (∀ j, w5.drew.heap.size ≤ j → j ≠ b) := ⟨fun j hj e => by have h5 : w5.heap.size ≤ j := hj; have := (Array.getElem?_eq_some_iff.1 HF5.out).1; omega⟩
  have d0 := (blk_cell HF5.out 0).trans (rfl : _ = some (Value.slice Av out.length cv)); have dz0 := Lib.frozen_of_heap HF5.out 0; have d1 := (blk_cell HF5.out 1).trans (rfl : _ = some (Value.string now.f0)); have dz1 := Lib.frozen_of_heap HF5.out 1; have d2 := (blk_cell HF5.out 2).trans (rfl : _ = some (Value.string now.f1)); have dz2 := Lib.frozen_of_heap HF5.out 2; have d3 := (blk_cell HF5.out 3).trans (rfl : _ = some (Value.string lb)); have dz3 := Lib.frozen_of_heap HF5.out 3; have d4 := (blk_cell HF5.out 4).trans (rfl : _ = some (Value.bool now.f3)); have dz4 := Lib.frozen_of_heap HF5.out 4; have d5 := (blk_cell HF5.out 5).trans (rfl : _ = some (Value.string now.f4)); have dz5 := Lib.frozen_of_heap HF5.out 5; have d6 := (blk_cell HF5.out 6).trans (rfl : _ = some (Value.string now.f5)); have dz6 := Lib.frozen_of_heap HF5.out 6; have d7 := (blk_cell HF5.out 7).trans (rfl : _ = some (Value.string now.f6)); have dz7 := Lib.frozen_of_heap HF5.out 7; have d8 := (blk_cell HF5.out 8).trans (rfl : _ = some (Value.string s)); have dz8 := Lib.frozen_of_heap HF5.out 8; have d9 := (blk_cell HF5.out 9).trans (rfl : _ = some (Value.bool now.f8)); have dz9 := Lib.frozen_of_heap HF5.out 9; have d10 := (blk_cell HF5.out 10).trans (rfl : _ = some (Value.int .i64 3)); have dz10 := Lib.frozen_of_heap HF5.out 10
  have d0o : ∀ o, (w5.alloc o).cell? ⟨b, 0, none⟩ = some (Value.slice Av out.length cv) := fun o => tr1o o d0
  clear HR3 HB3 HBW3 HM3 HFr HK5 HS5 HK3 n2 c0 c1 c2 c3 c4 c5 c6 c7 c8 c9 c10 c11 c12 cz0 cz1 cz2 cz3 cz4 cz5 cz6 cz7 cz8 cz9 cz10 cz11 cz12
  go_wp2
  go_region_law ((refine Kd.R_append_step k106 (w0 := w) (W := w5.drew) B (by rfl) (.tmp 90) (.tmp 95) 28 106 (.agg #[.string ⟨#[]⟩, .string ⟨#[]⟩, .string ⟨#[]⟩, .bool false, .string ⟨#[]⟩, .string ⟨#[]⟩, .string ⟨#[]⟩, .string ⟨#[]⟩, .bool false]) 128 (by rfl) Try.underlying28 part_inf rfl (by decide) (by omega) (.slice Av out.length cv) (out.map to106) (to106 (closeP now s lb)) [.string now.f0, .string now.f1, .string lb, .bool now.f3, .string now.f4, .string now.f5, .string now.f6, .string s, .bool now.f8] (fun j => j ≠ b) (fun _ => False) (by rfl) (by rfl) (k106_mkM _ _ _ _) (fun _ hk => hk.elim) HFr5.out HR5.out (below_drew1 HB5.out) HL5.out (by omega) ?_; intro v1 w6 ho6 hb6 hg6 hat6; obtain ⟨Aw, cw, hv1⟩ := Kd.R_slice ho6; rw [List.length_append, List.length_map, List.length_singleton] at hv1; subst hv1; have HF6 := Aside0.mk ((hg6.block b (Array.getElem?_eq_some_iff.1 (show w5.drew.heap[b]? = _ from HF5.out)).1 (fun e => HR5.out.1 b e.symm rfl)).trans (show w5.drew.heap[b]? = _ from HF5.out)); have HR6 := Aside0.mk ho6; have HU6 := Aside0.mk (KeepU.grown (KeepU.drew HU5.out) hg6 (Kd.R_typed HR5.out)); have HB6 := Aside0.mk hb6; have g0 := (blk_cell HF6.out 0).trans (rfl : _ = some (Value.slice Av out.length cv)); have gz0 := Lib.frozen_of_heap HF6.out 0; have g10 := (blk_cell HF6.out 10).trans (rfl : _ = some (Value.int .i64 3)); have gz10 := Lib.frozen_of_heap HF6.out 10; clear ho6 hb6 hg6 hat6))
  all_goals go_wp2
  all_goals go_ret
  all_goals refine ⟨rfl, rd_new (w := w6) hlo.out ?_ (by rw [List.map_append]; exact HR6.out) (fun k hk => ?_), ?_, ?_⟩
  all_goals first
   | (simp [World.setCell, World.drew, Array.getElem?_modify, HF6.out, closeP]; done)
   | (simp [World.setCell, World.drew, Array.getElem?_modify, Ne.symm hk]; done)
   | ((with_reducible refine KeepU.set ?_ _ _); (repeat (first | (with_reducible exact HU6.out) | (with_reducible refine KeepU.set ?_ _ _) | (with_reducible refine KeepU.drew ?_))); done)
   | (repeat (first | (with_reducible exact HB6.out) | (with_reducible refine Below.setCell (p := ⟨b, _, none⟩) ?_ hlo.out _)))
 ·refine (rd_to 62 0 HR.out (by show (0 : Int) ≤ 3 ∧ (3 : Int) ≤ 3; omega) rfl).mono ?_
  rintro e w1 ⟨rfl, rfl⟩
  go_wp2_with (first
   | (go_at_call 140; (refine (HLk.out _ ⟨_, _, _, HR.out⟩ HBW.out (by first | trivial | rfl)).mono ?_; rintro e w2 ⟨rfl, ⟨vo2, p2, v2, h2⟩, hb2, hk2⟩; have HR2 := Aside0.mk h2; have HK2 := Aside0.mk (KeepT.trans HK.out hk2); have HB2 := Aside0.mk (Below.trans HB.out hb2); have HBW2 := Aside0.mk (Nat.le_trans HBW.out hb2.size); have HM2 := Aside0.mk (hk2.cell HM.out (by decide) hne); have m20 := (blk_cell HM2.out 0).trans (rfl : _ = some (Value.int .u8 62)); have m21 := (blk_cell HM2.out 1).trans (rfl : _ = some (Value.bool true)); have m22 := (blk_cell HM2.out 2).trans (rfl : _ = some (Value.string lb)); clear h2 hb2 hk2))
   | (go_at_call 112; refine (HSd.out _ ⟨_, _, _, HR2.out⟩ HBW2.out).mono ?_; rintro e w3 ⟨rfl, ⟨vo, h3⟩, hb3, hk3⟩; have HR3 := Aside0.mk h3; have HK3 := Aside0.mk (KeepU.of (KeepT.trans HK2.out hk3)); have HB3 := Aside0.mk (Below.trans HB2.out hb3); have HBW3 := Aside0.mk (Nat.le_trans HBW2.out hb3.size); have HM3 := Aside0.mk (hk3.cell HM2.out (by decide) hne); obtain ⟨Av, cv, hvo⟩ := Kd.R_slice HR3.out.row; rw [List.length_map] at hvo; subst hvo; have n2 := (blk_cell HM3.out 2).trans (rfl : _ = some (Value.string lb)); have c0 := (blk_cell HR3.out.bld.blk 0).trans (rfl : _ = some (Value.slice Av out.length cv)); have cz0 := Lib.frozen_of_heap HR3.out.bld.blk 0; have c1 := (blk_cell HR3.out.bld.blk 1).trans (rfl : _ = some (Value.string now.f0)); have cz1 := Lib.frozen_of_heap HR3.out.bld.blk 1; have c2 := (blk_cell HR3.out.bld.blk 2).trans (rfl : _ = some (Value.string now.f1)); have cz2 := Lib.frozen_of_heap HR3.out.bld.blk 2; have c3 := (blk_cell HR3.out.bld.blk 3).trans (rfl : _ = some (Value.string now.f2)); have cz3 := Lib.frozen_of_heap HR3.out.bld.blk 3; have c4 := (blk_cell HR3.out.bld.blk 4).trans (rfl : _ = some (Value.bool now.f3)); have cz4 := Lib.frozen_of_heap HR3.out.bld.blk 4; have c5 := (blk_cell HR3.out.bld.blk 5).trans (rfl : _ = some (Value.string now.f4)); have cz5 := Lib.frozen_of_heap HR3.out.bld.blk 5; have c6 := (blk_cell HR3.out.bld.blk 6).trans (rfl : _ = some (Value.string now.f5)); have cz6 := Lib.frozen_of_heap HR3.out.bld.blk 6; have c7 := (blk_cell HR3.out.bld.blk 7).trans (rfl : _ = some (Value.string now.f6)); have cz7 := Lib.frozen_of_heap HR3.out.bld.blk 7; have c8 := (blk_cell HR3.out.bld.blk 8).trans (rfl : _ = some (Value.string now.f7)); have cz8 := Lib.frozen_of_heap HR3.out.bld.blk 8; have c9 := (blk_cell HR3.out.bld.blk 9).trans (rfl : _ = some (Value.bool now.f8)); have cz9 := Lib.frozen_of_heap HR3.out.bld.blk 9; have c10 := (blk_cell HR3.out.bld.blk 10).trans (rfl : _ = some (Value.int .i64 3)); have cz10 := Lib.frozen_of_heap HR3.out.bld.blk 10; have c11 := (blk_cell HR3.out.bld.blk 11).trans (rfl : _ = some (Value.pointer none)); have cz11 := Lib.frozen_of_heap HR3.out.bld.blk 11; have c12 := (blk_cell HR3.out.bld.blk 12).trans (rfl : _ = some (Value.slice none 0 0)); have cz12 := Lib.frozen_of_heap HR3.out.bld.blk 12; have hne2 := hne; have HFr : Aside0 (∀ j, w3.heap.size ≤ j → j ≠ b) := ⟨fun j hj e => by have := HR3.out.bld.lt; omega⟩; clear h3 hb3 hk3))
  have hmx : Try.prog.follows Departure.mixedOrders = true := by kernel_rfl
  have hne' : b ≠ nb := fun e => hne e.symm
  go_region_o
  have HF5 : Aside0 ((((w3.setCell ⟨b, 8, none⟩ (.string s)).setCell ⟨b, 3, none⟩ (.string lb)).drew).heap[b]? = some (.cells (rdC (.slice Av out.length cv) (closeP now s lb) 3 (.pointer none) (.slice none 0 0)) 155 (0, 0))) := ⟨by simp [World.setCell, World.drew, Array.getElem?_modify, HR3.out.bld.blk, closeP]⟩
  have HK5 : Aside0 (∀ k, k ≠ b → (((w3.setCell ⟨b, 8, none⟩ (.string s)).setCell ⟨b, 3, none⟩ (.string lb)).drew).heap[k]? = w3.heap[k]?) := ⟨fun k hk => by simp [World.setCell, World.drew, Array.getElem?_modify, Ne.symm hk]⟩
  have HB5 : Aside0 (Below B w (((w3.setCell ⟨b, 8, none⟩ (.string s)).setCell ⟨b, 3, none⟩ (.string lb)).drew)) := ⟨below_drew1 (Below.setCell (p := ⟨b, 3, none⟩) (Below.setCell (p := ⟨b, 8, none⟩) HB3.out hlo.out _) hlo.out _)⟩
  have HU5 : Aside0 (KeepU b w (((w3.setCell ⟨b, 8, none⟩ (.string s)).setCell ⟨b, 3, none⟩ (.string lb)).drew)) := ⟨((HK3.out.set 8 _).set 3 _).drew⟩
  have HS5 : Aside0 ((((w3.setCell ⟨b, 8, none⟩ (.string s)).setCell ⟨b, 3, none⟩ (.string lb)).drew).heap.size = w3.heap.size) := ⟨by simp [World.setCell, World.drew]⟩
  generalize ((w3.setCell ⟨b, 8, none⟩ (.string s)).setCell ⟨b, 3, none⟩ (.string lb)).drew = w5 at *
  have HR5 := Aside0.mk (Kd.R_drew (Kd.R_move HR3.out.row HK5.out))
  have HL5 : Aside0 (B ≤ w5.drew.heap.size) := ⟨by show B ≤ w5.heap.size; rw [HS5.out]; exact HBW3.out⟩
  have HFr5 : Aside0 (∀ j, w5.drew.heap.size ≤ j → j ≠ b) := ⟨fun j hj e => by have h5 : w5.heap.size ≤ j := hj; have := (Array.getElem?_eq_some_iff.1 HF5.out).1; omega⟩
  have d0 := (blk_cell HF5.out 0).trans (rfl : _ = some (Value.slice Av out.length cv)); have dz0 := Lib.frozen_of_heap HF5.out 0; have d1 := (blk_cell HF5.out 1).trans (rfl : _ = some (Value.string now.f0)); have dz1 := Lib.frozen_of_heap HF5.out 1; have d2 := (blk_cell HF5.out 2).trans (rfl : _ = some (Value.string now.f1)); have dz2 := Lib.frozen_of_heap HF5.out 2; have d3 := (blk_cell HF5.out 3).trans (rfl : _ = some (Value.string lb)); have dz3 := Lib.frozen_of_heap HF5.out 3; have d4 := (blk_cell HF5.out 4).trans (rfl : _ = some (Value.bool now.f3)); have dz4 := Lib.frozen_of_heap HF5.out 4; have d5 := (blk_cell HF5.out 5).trans (rfl : _ = some (Value.string now.f4)); have dz5 := Lib.frozen_of_heap HF5.out 5; have d6 := (blk_cell HF5.out 6).trans (rfl : _ = some (Value.string now.f5)); have dz6 := Lib.frozen_of_heap HF5.out 6; have d7 := (blk_cell HF5.out 7).trans (rfl : _ = some (Value.string now.f6)); have dz7 := Lib.frozen_of_heap HF5.out 7; have d8 := (blk_cell HF5.out 8).trans (rfl : _ = some (Value.string s)); have dz8 := Lib.frozen_of_heap HF5.out 8; have d9 := (blk_cell HF5.out 9).trans (rfl : _ = some (Value.bool now.f8)); have dz9 := Lib.frozen_of_heap HF5.out 9; have d10 := (blk_cell HF5.out 10).trans (rfl : _ = some (Value.int .i64 3)); have dz10 := Lib.frozen_of_heap HF5.out 10
  have d0o : ∀ o, (w5.alloc o).cell? ⟨b, 0, none⟩ = some (Value.slice Av out.length cv) := fun o => tr1o o d0
  clear HR3 HB3 HBW3 HM3 HFr HK5 HS5 HK3 n2 c0 c1 c2 c3 c4 c5 c6 c7 c8 c9 c10 c11 c12 cz0 cz1 cz2 cz3 cz4 cz5 cz6 cz7 cz8 cz9 cz10 cz11 cz12
  go_wp2
  go_region_law ((refine Kd.R_append_step k106 (w0 := w) (W := w5.drew) B (by rfl) (.tmp 90) (.tmp 95) 28 106 (.agg #[.string ⟨#[]⟩, .string ⟨#[]⟩, .string ⟨#[]⟩, .bool false, .string ⟨#[]⟩, .string ⟨#[]⟩, .string ⟨#[]⟩, .string ⟨#[]⟩, .bool false]) 128 (by rfl) Try.underlying28 part_inf rfl (by decide) (by omega) (.slice Av out.length cv) (out.map to106) (to106 (closeP now s lb)) [.string now.f0, .string now.f1, .string lb, .bool now.f3, .string now.f4, .string now.f5, .string now.f6, .string s, .bool now.f8] (fun j => j ≠ b) (fun _ => False) (by rfl) (by rfl) (k106_mkM _ _ _ _) (fun _ hk => hk.elim) HFr5.out HR5.out (below_drew1 HB5.out) HL5.out (by omega) ?_; intro v1 w6 ho6 hb6 hg6 hat6; obtain ⟨Aw, cw, hv1⟩ := Kd.R_slice ho6; rw [List.length_append, List.length_map, List.length_singleton] at hv1; subst hv1; have HF6 := Aside0.mk ((hg6.block b (Array.getElem?_eq_some_iff.1 (show w5.drew.heap[b]? = _ from HF5.out)).1 (fun e => HR5.out.1 b e.symm rfl)).trans (show w5.drew.heap[b]? = _ from HF5.out)); have HR6 := Aside0.mk ho6; have HU6 := Aside0.mk (KeepU.grown (KeepU.drew HU5.out) hg6 (Kd.R_typed HR5.out)); have HB6 := Aside0.mk hb6; have g0 := (blk_cell HF6.out 0).trans (rfl : _ = some (Value.slice Av out.length cv)); have gz0 := Lib.frozen_of_heap HF6.out 0; have g10 := (blk_cell HF6.out 10).trans (rfl : _ = some (Value.int .i64 3)); have gz10 := Lib.frozen_of_heap HF6.out 10; clear ho6 hb6 hg6 hat6))
  all_goals go_wp2
  all_goals go_ret
  all_goals refine ⟨rfl, rd_new (w := w6) hlo.out ?_ (by rw [List.map_append]; exact HR6.out) (fun k hk => ?_), ?_, ?_⟩
  all_goals first
   | (simp [World.setCell, World.drew, Array.getElem?_modify, HF6.out, closeP]; done)
   | (simp [World.setCell, World.drew, Array.getElem?_modify, Ne.symm hk]; done)
   | ((with_reducible refine KeepU.set ?_ _ _); (repeat (first | (with_reducible exact HU6.out) | (with_reducible refine KeepU.set ?_ _ _) | (with_reducible refine KeepU.drew ?_))); done)
   | (repeat (first | (with_reducible exact HB6.out) | (with_reducible refine Below.setCell (p := ⟨b, _, none⟩) ?_ hlo.out _)))
theorem toP_cases {k wh : Int} (h : toP k wh ≠ -1) : (k = 60 ∧ wh = 0) ∨ (k = 124 ∧ wh = 1) ∨ (k = 61 ∧ (wh = 1 ∨ wh = 2)) ∨ (k = 62 ∧ wh = 3) := by
 unfold toP at h
 split at h
 ·rename_i q; exact .inl q
 ·split at h
  ·rename_i q; exact .inr (.inl q)
  ·split at h
   ·rename_i q; exact .inr (.inr (.inl q))
   ·split at h
    ·rename_i q; exact .inr (.inr (.inr q))
    ·exact absurd rfl h
theorem rd_marker {B b : Nat} {st q : PSt} {w : World} (k er : Int) (fl : Bool) (lb : ByteArray) (h : Rd B b st w) (hw : 0 ≤ st.wh ∧ st.wh ≤ 3) (hn : st.buf.length ≤ 4000000000) (hout : st.out.length ≤ 100000000000) (hBw : B ≤ w.heap.size) (hm : markP st k fl lb = (q, er)) :
  Calls Try.prog 111 #[.pointer (some ⟨b, 0, none⟩), .agg #[.int .u8 k, .bool fl, .string lb]] w fun e w' => e = .returned (.int .i64 er) ∧ (er = 0 → Rd B b q w' ∧ KeepU b w w') ∧ Below B w w' := by
 by_cases hd : toP k st.wh = -1
 ·unfold markP at hm
  rw [if_pos hd] at hm
  injection hm with h1 h2
  subst h2
  refine (rd_stray k fl lb h hw hd hBw).mono ?_
  rintro e w' ⟨rfl, hb⟩
  exact ⟨rfl, fun e => (by split at e <;> cases e), hb⟩
 by_cases hf : fl = true ∧ lacksP st.buf = false
 ·unfold markP at hm
  rw [if_neg hd, if_pos hf] at hm
  injection hm with h1 h2
  subst h2
  obtain ⟨rfl, hl⟩ := hf
  refine (rd_flag k _ lb h hw rfl hd hl hn hBw).mono ?_
  rintro e w' ⟨rfl, hb⟩
  exact ⟨rfl, fun e => (by cases e), hb⟩
 rw [markP_ok rfl hd hf] at hm
 injection hm with h1 h2
 subst h1 h2
 have fin : ∀ {e : Ending} {w' : World} {s : PSt}, (e = .returned (.int .i64 0) ∧ Rd B b s w' ∧ Below B w w' ∧ KeepU b w w') → (e = .returned (.int .i64 0) ∧ ((0 : Int) = 0 → Rd B b s w' ∧ KeepU b w w') ∧ Below B w w') := fun h => ⟨h.1, fun _ => ⟨h.2.1, h.2.2.2⟩, h.2.2.1⟩
 obtain ⟨out, now, wh, buf⟩ := st
 rcases toP_cases hd with ⟨rfl, e⟩ | ⟨rfl, e⟩ | ⟨rfl, e⟩ | ⟨rfl, e⟩
 ·simp only at e; subst e
  exact (rd_ok_0_60 fl lb h hf hn hout hBw).mono (fun e w' h => fin h)
 ·simp only at e; subst e
  exact (rd_ok_1_124 fl lb h hf hn hout hBw).mono (fun e w' h => fin h)
 ·simp only at e
  rcases e with rfl | rfl
  ·exact (rd_ok_1_61 fl lb h hf hn hout hBw).mono (fun e w' h => fin h)
  ·exact (rd_ok_2_61 fl lb h hf hn hout hBw).mono (fun e w' h => fin h)
 ·simp only at e; subst e
  exact (rd_ok_3_62 fl lb h hf hn hout hBw).mono (fun e w' h => fin h)
theorem markP_next {st q : PSt} {k : Int} {fl : Bool} {lb : ByteArray} (hm : markP st k fl lb = (q, 0)) : (0 ≤ q.wh ∧ q.wh ≤ 3) ∧ q.buf = [] ∧ q.out.length ≤ st.out.length + 1 := by
 unfold markP at hm
 split at hm
 ·injection hm with _ h2; split at h2 <;> cases h2
 ·rename_i hd
  split at hm
  ·injection hm with _ h2; cases h2
  ·injection hm with h1 h2
   subst h1
   refine ⟨?_, rfl, ?_⟩
   ·show 0 ≤ toP k st.wh ∧ toP k st.wh ≤ 3
    unfold toP at hd ⊢
    repeat' split
    all_goals first | omega | simp_all
   ·show (putP st _ lb).1.length ≤ _
    unfold putP
    repeat' split
    all_goals simp
end Go.Proofs.Ytfiamddinkokbaa.F
end
