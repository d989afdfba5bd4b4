/- Texts joined into one file (wip/tools/pack.py): Reader, ParseLaw2 -/
import Derived.Test.YtfiamddinkokbaaPB16
import Derived.Test.YtfiamddinkokbaaPB28
import Derived.Test.YtfiamddinkokbaaPB18
set_option linter.unusedVariables false
set_option linter.unusedSimpArgs false
section
namespace Go.Proofs.Ytfiamddinkokbaa.F
open Go.RowKit Go.Shelf Go.Proofs.YtfiamddinkokbaaW.PrintWords
abbrev rdC (vo : Value) (x : S109) (wh : Int) (p v : Value) : Array Value := #[vo, .string x.f0, .string x.f1, .string x.f2, .bool x.f3, .string x.f4, .string x.f5, .string x.f6, .string x.f7, .bool x.f8, .int .i64 wh, p, v]
structure RdAt (B b : Nat) (vo p v : Value) (st : PSt) (w : World) : Prop where
 bld : BldAt 155 11 B b (rdC vo st.now st.wh p v) p v st.buf w
 row : Kd.R k106 106 w B (fun j => j ≠ b) vo (st.out.map to106)
def Rd (B b : Nat) (st : PSt) (w : World) : Prop := ∃ vo p v, RdAt B b vo p v st w
def KeepU (b : Nat) (w w' : World) : Prop := ∀ k cs t fr, w.heap[k]? = some (.cells cs t fr) → t ≠ 5 → t ≠ 106 → k ≠ b → w'.heap[k]? = w.heap[k]?
theorem KeepU.of {b : Nat} {w w' : World} (h : KeepT b w w') : KeepU b w w' := fun k cs t fr hk ht _ hb => h k cs t fr hk ht hb
theorem KeepU.trans {b : Nat} {w w1 w2 : World} (h : KeepU b w w1) (g : KeepU b w1 w2) : KeepU b w w2 := fun k cs t fr hk ht hp hb => by
 have h1 := h k cs t fr hk ht hp hb
 rw [g k cs t fr (h1.trans hk) ht hp hb, h1]
theorem KeepU.set {b : Nat} {w w' : World} (h : KeepU b w w') (i : Nat) (v : Value) : KeepU b w (w'.setCell ⟨b, i, none⟩ v) := fun k cs t fr hk ht hp hb => by
 rw [Below.heap_setCell _ _ _ _ hb]; exact h k cs t fr hk ht hp hb
theorem KeepU.drew {b : Nat} {w w' : World} (h : KeepU b w w') : KeepU b w w'.drew := fun k cs t fr hk ht hp hb => h k cs t fr hk ht hp hb
theorem KeepU.grown {b : Nat} {w w1 w2 : World} {row : Option Nat} (h : KeepU b w w1) (hg : w1.grownBy w2 row) (ht : ∀ k, row = some k → ∃ cells, w1.heap[k]? = some (.cells cells 106 (0, 0))) : KeepU b w w2 := fun k cs t fr hk hu hp hb => by
 have h1 := h k cs t fr hk hu hp hb
 have h2 := h1.trans hk
 rw [hg.block k (Array.getElem?_eq_some_iff.1 h2).1 (fun e => ?_), h1]
 obtain ⟨cells, hc⟩ := ht k e.symm
 rw [h2] at hc
 injection hc with hc
 injection hc with _ hc _
 exact hp hc
theorem KeepU.cell {b : Nat} {w w' : World} (h : KeepU b w w') {k : Nat} {cs : Array Value} {t : TypeId} (hk : w.heap[k]? = some (.cells cs t (0, 0))) (ht : t ≠ 5) (hp : t ≠ 106) (hb : k ≠ b) : w'.heap[k]? = some (.cells cs t (0, 0)) := (h k cs t (0, 0) hk ht hp hb).trans hk
theorem R_keepT {B b : Nat} {vo : Value} {xs : List S106} {w w' : World} (h : Kd.R k106 106 w B (fun j => j ≠ b) vo xs) (hk : KeepT b w w') : Kd.R k106 106 w' B (fun j => j ≠ b) vo xs := by
 have hE : (k106).E = [] := rfl
 refine Kd.R_reok hE (Kd.R_move (Kd.R_tight hE h) (fun k ho => ?_)) (fun k ho => h.1 k ho)
 obtain ⟨cells, hc⟩ := Kd.R_typed h k ho.symm
 exact hk k cells _ _ hc (by decide) (h.1 k ho.symm)
theorem RdAt.below {B b : Nat} {vo p v : Value} {st : PSt} {w w' : World} (h : RdAt B b vo p v st w) (hb : Below w.heap.size w w') : RdAt B b vo p v st w' :=
 ⟨h.bld.move (hb.block b h.bld.lt) (fun k hk => hb.block k (h.bld.own.lt k hk).2), Kd.R_below h.row hb⟩
theorem Rd.below {B b : Nat} {st : PSt} {w w' : World} (h : Rd B b st w) (hb : Below w.heap.size w w') : Rd B b st w' := by
 obtain ⟨vo, p, v, h⟩ := h
 exact ⟨vo, p, v, h.below hb⟩
theorem RdAt.froz {B b : Nat} {vo p v : Value} {st : PSt} {w : World} (h : RdAt B b vo p v st w) (j : Nat) : w.frozen? ⟨b, j, none⟩ = false := Lib.frozen_of_heap h.bld.blk j
theorem keepT_own {T : TypeId} {o B b : Nat} {cs : Array Value} {p v : Value} {bs : List UInt8} {w w' : World} (h : BldAt T o B b cs p v bs w) (hk : ∀ k, k < w.heap.size → k ≠ b → some k ≠ v.ownBlock → w'.heap[k]? = w.heap[k]?) : KeepT b w w' := fun k cs t fr hkk ht hkb => hk k (Array.getElem?_eq_some_iff.1 hkk).1 hkb (fun e => by
 obtain ⟨cells, fz, hc⟩ := ownF_typed h.own k e.symm
 rw [hkk] at hc
 injection hc with hc
 injection hc with _ hc _
 exact ht hc)
theorem rd_write {B b : Nat} {st : PSt} {w : World} (s : ByteArray) (h : Rd B b st w) (hlen : st.buf.length + s.size ≤ 140737488355328) (hBw : B ≤ w.heap.size) :
  Calls Try.prog 87 #[.pointer (some ⟨b, 11, none⟩), .string s] w fun e w' => e = .returned (.tuple #[.int .i64 s.size, .nilIface]) ∧ Rd B b ⟨st.out, st.now, st.wh, st.buf ++ s.data.toList⟩ w' ∧ Below B w w' ∧ KeepT b w w' := by
 obtain ⟨vo, p, v, h⟩ := h
 refine (bld_write s h.bld (by kernel_rfl) (by decide) hlen hBw).mono ?_
 rintro e w' ⟨rfl, v', h', hb, hk⟩
 exact ⟨rfl, ⟨vo, _, v', h', R_keepT h.row (keepT_own h.bld hk)⟩, hb, keepT_own h.bld hk⟩
theorem rd_string {B b : Nat} {vo p v : Value} {st : PSt} {w : World} (h : RdAt B b vo p v st w) (hBw : B ≤ w.heap.size) :
  Calls Try.prog 89 #[.pointer (some ⟨b, 11, none⟩)] w fun e w' => e = .returned (.string (toB st.buf)) ∧ RdAt B b vo p v st w' ∧ Below B w w' ∧ KeepT b w w' := by
 refine (bld_string h.bld hBw).mono ?_
 rintro e w' ⟨rfl, hb, hk, h'⟩
 exact ⟨rfl, ⟨h', R_keepT h.row (keepT_own h.bld (fun k hl _ ho => hk k hl ho))⟩, hb, keepT_own h.bld (fun k hl _ ho => hk k hl ho)⟩
theorem RdAt.wipe {B b : Nat} {vo p v : Value} {st : PSt} {w w' : World} (h : RdAt B b vo p v st w) (hb : w'.heap[b]? = some (.cells (rdC vo st.now st.wh (.pointer none) (.slice none 0 0)) 155 (0, 0))) (hk : ∀ k, k ≠ b → w'.heap[k]? = w.heap[k]?) : RdAt B b vo (.pointer none) (.slice none 0 0) ⟨st.out, st.now, st.wh, []⟩ w' :=
 ⟨⟨h.bld.lo, hb, rfl, rfl, .inl rfl, World.ownsRowF_nil _ _ _ _, by simp [Value.ownBlock]⟩, Kd.R_move h.row hk⟩
theorem rd_new {B b : Nat} {v1 : Value} {out : List S109} {now : S109} {wh : Int} {w w' : World} (hlo : B ≤ b) (hb : w'.heap[b]? = some (.cells (rdC v1 now wh (.pointer none) (.slice none 0 0)) 155 (0, 0))) (hr : Kd.R k106 106 w B (fun j => j ≠ b) v1 (out.map to106)) (hk : ∀ k, k ≠ b → w'.heap[k]? = w.heap[k]?) : Rd B b ⟨out, now, wh, []⟩ w' :=
 ⟨v1, _, _, ⟨hlo, hb, rfl, rfl, .inl rfl, World.ownsRowF_nil _ _ _ _, by simp [Value.ownBlock]⟩, Kd.R_move hr hk⟩
set_option maxHeartbeats 2000000 in
set_option maxRecDepth 100000 in
theorem rd_reset {B b : Nat} {vo p v : Value} {st : PSt} {w : World} (h : RdAt B b vo p v st w) :
  Calls Try.prog 141 #[.pointer (some ⟨b, 11, none⟩)] w fun e w' => e = .returned (.tuple #[]) ∧ RdAt B b vo (.pointer none) (.slice none 0 0) ⟨st.out, st.now, st.wh, []⟩ w' ∧ Below B w w' ∧ KeepT b w w' := by
 have HH := Aside0.mk h
 have c11 : w.cell? ⟨b, 11, none⟩ = some p := (Lib.cell_of_heap h.bld.blk 11).trans rfl
 have c12 : w.cell? ⟨b, 12, none⟩ = some v := (Lib.cell_of_heap h.bld.blk 12).trans rfl
 have f11 := h.froz 11
 have f12 := h.froz 12
 clear h
 go_enter Try.func141, Try.ntmps141
 go_wp2
 go_end0
 have hb := HH.out.bld.blk
 refine ⟨rfl, HH.out.wipe ?_ (fun k hk => ?_), Below.setCell (p := ⟨b, 12, none⟩) (Below.setCell (p := ⟨b, 11, none⟩) (Below.refl B w) HH.out.bld.lo _) HH.out.bld.lo _, ((KeepT.refl b w).set 11 _).set 12 _⟩
 ·simp [World.setCell, Array.getElem?_modify, hb]
 ·rw [Below.heap_setCell _ _ _ _ hk, Below.heap_setCell _ _ _ _ hk]
set_option maxHeartbeats 4000000 in
set_option maxRecDepth 100000 in
theorem rd_to {B b : Nat} {vo p v : Value} {st : PSt} {w : World} (k d : Int) (h : RdAt B b vo p v st w) (hw : 0 ≤ st.wh ∧ st.wh ≤ 3) (hd : toP k st.wh = d) :
  Calls Try.prog 139 #[.pointer (some ⟨b, 0, none⟩), .int .u8 k] w fun e w' => e = .returned (.int .i64 d) ∧ w' = w := by
 have c10 : w.cell? ⟨b, 10, none⟩ = some (.int .i64 st.wh) := (Lib.cell_of_heap h.bld.blk 10).trans rfl
 generalize st.wh = wh at c10 hw hd
 clear h
 have go : ∀ k0 : Int, k = k0 ∨ True := fun _ => .inr trivial
 clear go
 obtain ⟨h0, h3⟩ := hw
 by_cases k60 : k = 60
 ·subst k60
  obtain rfl | rfl | rfl | rfl : wh = 0 ∨ wh = 1 ∨ wh = 2 ∨ wh = 3 := by omega
  all_goals
   subst hd
   go_enter Try.func139, Try.ntmps139
   go_wp2
   go_ret
   exact ⟨rfl, rfl⟩
 by_cases k124 : k = 124
 ·subst k124
  obtain rfl | rfl | rfl | rfl : wh = 0 ∨ wh = 1 ∨ wh = 2 ∨ wh = 3 := by omega
  all_goals
   subst hd
   go_enter Try.func139, Try.ntmps139
   go_wp2
   go_ret
   exact ⟨rfl, rfl⟩
 by_cases k61 : k = 61
 ·subst k61
  obtain rfl | rfl | rfl | rfl : wh = 0 ∨ wh = 1 ∨ wh = 2 ∨ wh = 3 := by omega
  all_goals
   subst hd
   go_enter Try.func139, Try.ntmps139
   go_wp2
   go_ret
   exact ⟨rfl, rfl⟩
 by_cases k62 : k = 62
 ·subst k62
  obtain rfl | rfl | rfl | rfl : wh = 0 ∨ wh = 1 ∨ wh = 2 ∨ wh = 3 := by omega
  all_goals
   subst hd
   go_enter Try.func139, Try.ntmps139
   go_wp2
   go_ret
   exact ⟨rfl, rfl⟩
 have hr : d = -1 := by
  rw [← hd]; unfold toP
  rw [if_neg (fun e => k60 e.1), if_neg (fun e => k124 e.1), if_neg (fun e => k61 e.1), if_neg (fun e => k62 e.1)]
 subst hr
 have q60 : (k == (60 : Int)) = false := beq_eq_false_iff_ne.2 k60
 have q124 : (k == (124 : Int)) = false := beq_eq_false_iff_ne.2 k124
 have q61 : (k == (61 : Int)) = false := beq_eq_false_iff_ne.2 k61
 have q62 : (k == (62 : Int)) = false := beq_eq_false_iff_ne.2 k62
 clear hd k60 k124 k61 k62
 go_enter Try.func139, Try.ntmps139
 go_wp2
 go_ret
 exact ⟨rfl, rfl⟩
set_option maxHeartbeats 4000000 in
set_option maxRecDepth 100000 in
theorem rd_sideA {B b : Nat} {vo p v : Value} {st : PSt} {w : World} (fl : Bool) (h : RdAt B b vo p v st w) (hn : st.buf.length ≤ 4000000000) (hBw : B ≤ w.heap.size) :
  Calls Try.prog 112 #[.pointer (some ⟨b, 0, none⟩), .bool fl] w fun e w' => e = .returned (.string (sideP fl st.buf)) ∧ RdAt B b vo (.pointer none) (.slice none 0 0) ⟨st.out, st.now, st.wh, []⟩ w' ∧ Below B w w' ∧ KeepT b w w' := by
 have HS := Aside0.mk (rd_string h hBw)
 have HT := Aside0.mk (fun W => strings_TrimSuffix.calls (toB st.buf) ⟨#[10]⟩ _ W (trims (toB st.buf) (by rw [← size_data, data_toB]; exact hn)))
 have HB := Aside0.mk hBw
 clear h hBw hn
 cases fl
 ·have e : sideP false st.buf = toB st.buf := rfl
  rw [e]
  go_enter Try.func112, Try.ntmps112
  go_wp2_with (first
   | (go_at_call 89; refine HS.out.mono ?_; rintro e w1 ⟨rfl, h1, hb1, hk1⟩; have H1 := Aside0.mk h1; have HB1 := Aside0.mk hb1; have HK1 := Aside0.mk hk1; clear h1 hb1 hk1)
   | (go_at_call 141; refine (rd_reset H1.out).mono ?_; rintro e w2 ⟨rfl, h2, hb2, hk2⟩; have H2 := Aside0.mk h2; have HB2 := Aside0.mk (Below.trans HB1.out hb2); have HK2 := Aside0.mk (KeepT.trans HK1.out hk2); clear h2 hb2 hk2))
  go_ret
  exact ⟨rfl, H2.out, HB2.out, HK2.out⟩
 ·have e : sideP true st.buf = toB (trimL (toB st.buf).data.toList) := by rw [data_toB]; rfl
  rw [e]
  go_enter Try.func112, Try.ntmps112
  go_wp2_with (first
   | (go_at_call 89; refine HS.out.mono ?_; rintro e w1 ⟨rfl, h1, hb1, hk1⟩; have H1 := Aside0.mk h1; have HB1 := Aside0.mk hb1; have HK1 := Aside0.mk hk1; clear h1 hb1 hk1)
   | (go_at_call 141; refine (rd_reset H1.out).mono ?_; rintro e w2 ⟨rfl, h2, hb2, hk2⟩; have H2 := Aside0.mk h2; have HB2 := Aside0.mk (Below.trans HB1.out hb2); have HK2 := Aside0.mk (KeepT.trans HK1.out hk2); clear h2 hb2 hk2)
   | (go_at_call 99; refine (HT.out _).mono ?_; rintro e w3 ⟨rfl, nd, rfl⟩))
  go_ret
  exact ⟨rfl, H2.out.below (pw_below_drewN (Below.refl _ _) nd), pw_below_drewN HB2.out nd, HK2.out.drewN nd⟩
theorem rd_side {B b : Nat} {st : PSt} {w : World} (fl : Bool) (h : Rd B b st w) (hn : st.buf.length ≤ 4000000000) (hBw : B ≤ w.heap.size) :
  Calls Try.prog 112 #[.pointer (some ⟨b, 0, none⟩), .bool fl] w fun e w' => e = .returned (.string (sideP fl st.buf)) ∧ (∃ vo, RdAt B b vo (.pointer none) (.slice none 0 0) ⟨st.out, st.now, st.wh, []⟩ w') ∧ Below B w w' ∧ KeepT b w w' := by
 obtain ⟨vo, p, v, h⟩ := h
 refine (rd_sideA fl h hn hBw).mono ?_
 rintro e w' ⟨rfl, h1, hb, hk⟩
 exact ⟨rfl, ⟨vo, h1⟩, hb, hk⟩
set_option maxHeartbeats 4000000 in
set_option maxRecDepth 100000 in
theorem rd_lacks {B b : Nat} {st : PSt} {w : World} (h : Rd B b st w) (hn : st.buf.length ≤ 4000000000) (hBw : B ≤ w.heap.size) :
  Calls Try.prog 140 #[.pointer (some ⟨b, 0, none⟩)] w fun e w' => e = .returned (.bool (lacksP st.buf)) ∧ Rd B b st w' ∧ Below B w w' ∧ KeepT b w w' := by
 obtain ⟨vo, p, v, h⟩ := h
 have HS := Aside0.mk (rd_string h hBw)
 have HT := Aside0.mk (fun W => strings_TrimSuffix.calls (toB st.buf) ⟨#[10]⟩ _ W (trims (toB st.buf) (by rw [← size_data, data_toB]; exact hn)))
 have HQ := Aside0.mk (fun W => strings_HasSuffix.calls (toB (trimL (toB st.buf).data.toList)) ⟨#[10]⟩ _ W (sufx _ (by rw [← size_data, data_toB, data_toB]; have := trimL_le st.buf; omega)))
 have HB := Aside0.mk hBw
 have el : lacksP st.buf = (!(toB (trimL (toB st.buf).data.toList)).toList.isEmpty && !endsL (toB (trimL (toB st.buf).data.toList)).data.toList) := by rw [bytes_toList, data_toB, data_toB]; rfl
 rw [el]
 clear h hBw hn el
 generalize endsL (toB (trimL (toB st.buf).data.toList)).data.toList = q at HQ ⊢
 generalize toB (trimL (toB st.buf).data.toList) = s at HQ HT ⊢
 go_enter Try.func140, Try.ntmps140
 go_wp2_with (first
  | (go_at_call 89; refine HS.out.mono ?_; rintro e w1 ⟨rfl, h1, hb1, hk1⟩; have H1 := Aside0.mk h1; have HB1 := Aside0.mk hb1; have HK1 := Aside0.mk hk1; clear h1 hb1 hk1)
  | (go_at_call 99; refine (HT.out _).mono ?_; rintro e w3 ⟨rfl, nd, rfl⟩)
  | (go_at_call 115; refine (HQ.out _).mono ?_; rintro e w2 ⟨rfl, nd2, rfl⟩))
 all_goals go_ret
 ·rename_i hz
  rw [show (!s.toList.isEmpty && !q) = false by rw [hz]; rfl]
  exact ⟨rfl, ⟨_, _, _, H1.out.below (pw_below_drewN (Below.refl _ _) nd)⟩, pw_below_drewN HB1.out nd, HK1.out.drewN nd⟩
 ·exact ⟨rfl, ⟨_, _, _, H1.out.below (pw_below_drewN (Below.refl _ _) _)⟩, pw_below_drewN HB1.out _, HK1.out.drewN _⟩
end Go.Proofs.Ytfiamddinkokbaa.F
end

section
namespace Go.Proofs.Ytfiamddinkokbaa.F
open Go.RowKit Go.Proofs.YtfiamddinkokbaaW.PrintWords Go.Proofs.YtfiamddinkokbaaW.PrintLast Go.Proofs.YtfiamddinkokbaaW.PrintMore
theorem markP_ok {st : PSt} {k : Int} {fl : Bool} {lb : ByteArray} {d : Int} (hd : toP k st.wh = d) (hn : d ≠ -1) (hf : ¬ (fl = true ∧ lacksP st.buf = false)) :
  markP st k fl lb = (⟨(putP st (sideP fl st.buf) lb).1, if d = 2 then hasP (putP st (sideP fl st.buf) lb).2 lb else (putP st (sideP fl st.buf) lb).2, d, []⟩, 0) := by
 subst hd
 unfold markP
 rw [if_neg hn, if_neg hf]
theorem may_open (lb : ByteArray) (h : lineless lb = false) : mayB (((60 : UInt8).toNat : Nat) : Int) false lb = true := by
 have e : (((60 : UInt8).toNat : Nat) : Int) = 60 := rfl
 rw [e]; unfold mayB signI; rw [h]; rfl
theorem may_base (fl : Bool) (lb : ByteArray) (h : lineless lb = false) : mayB (((124 : UInt8).toNat : Nat) : Int) fl lb = true := by
 have e : (((124 : UInt8).toNat : Nat) : Int) = 124 := rfl
 rw [e]; unfold mayB signI; rw [h]; cases fl <;> rfl
theorem may_mid (fl : Bool) : mayB (((61 : UInt8).toNat : Nat) : Int) fl (⟨#[]⟩ : ByteArray) = true := by
 have e : (((61 : UInt8).toNat : Nat) : Int) = 61 := rfl
 rw [e]; unfold mayB signI; rw [lineless_nil, bytes_toList]; cases fl <;> rfl
theorem may_close (fl : Bool) (lb : ByteArray) (h : lineless lb = false) : mayB (((62 : UInt8).toNat : Nat) : Int) fl lb = true := by
 have e : (((62 : UInt8).toNat : Nat) : Int) = 62 := rfl
 rw [e]; unfold mayB signI; rw [h]; cases fl <;> rfl
theorem line60 (fl : Bool) (lb : ByteArray) (w : Int) : lineL 60 fl lb w = markL 60 fl lb.data.toList w.toNat := lineL_eq 60 fl lb w
theorem line124 (fl : Bool) (lb : ByteArray) (w : Int) : lineL 124 fl lb w = markL 124 fl lb.data.toList w.toNat := lineL_eq 124 fl lb w
theorem line61 (fl : Bool) (lb : ByteArray) (w : Int) : lineL 61 fl lb w = markL 61 fl lb.data.toList w.toNat := lineL_eq 61 fl lb w
theorem line62 (fl : Bool) (lb : ByteArray) (w : Int) : lineL 62 fl lb w = markL 62 fl lb.data.toList w.toNat := lineL_eq 62 fl lb w
theorem empty_is {s : ByteArray} (h : s.toList.isEmpty = true) : s = ⟨#[]⟩ := toList_inj (by rw [List.isEmpty_iff.1 h, bytes_toList])
theorem narrow_four {w : Int} {x : S109} (h : narrowerP w x = true) : textRun x.f4 < w ∧ textRun x.f5 < w ∧ textRun x.f6 < w ∧ textRun x.f7 < w := by
 unfold narrowerP at h
 simp only [Bool.and_eq_true, decide_eq_true_eq] at h
 exact h
theorem plain_three {x : S109} (h : plainP x = true) : lineless x.f0 = false ∧ lineless x.f1 = false ∧ lineless x.f2 = false := by
 unfold plainP at h
 simp only [Bool.and_eq_true, Bool.not_eq_true'] at h
 exact h
def hunkQ (w : Int) (x : S109) : List UInt8 := hunkL w false (to106 x) (endsL x.f5.data.toList) (endsL x.f6.data.toList) (endsL x.f7.data.toList)
theorem runs_side {w : Int} {s : ByteArray} (q : Bool) (h : textRun s < w) : Runs (w.toNat - 1) (sideL s q) := (side_runs s q).mono (by have := textRun_bound s; omega)
theorem rp_hunk {w : Int} (h1 : 1 ≤ w) (h2 : w ≤ 1073741824) (x : S109) (hc : confP x = true) (hp : plainP x = true) (hn : narrowerP w x = true) (b : List UInt8) (i : Int) (out : List S109) (now : S109) (buf : List UInt8) :
  ∃ i' now', rpB w (hunkQ w x ++ b) i ⟨out, now, 0, buf⟩ = rpB w b i' ⟨out ++ [textP (toB buf), x], now', 0, []⟩ := by
 obtain ⟨p0, p1, p2⟩ := plain_three hp
 obtain ⟨n4, n5, n6, n7⟩ := narrow_four hn
 obtain ⟨l0, l1, l2, hk, tx, s5, s6, s7, hb⟩ := x
 simp only at p0 p1 p2 n4 n5 n6 n7
 unfold confP at hc
 simp only [Bool.and_eq_true, Bool.or_eq_true] at hc
 obtain ⟨rfl, htx, hbb⟩ := hc
 obtain rfl := empty_is htx
 unfold hunkQ hunkL
 simp only [to106, List.append_assoc]
 simp only [line60, line124, line61, line62]
 rw [rp_mark h1 h2 60 false l0 _ i ⟨out, now, 0, buf⟩ ⟨out ++ [textP (toB buf)], openP l0, 1, []⟩ (may_open l0 p0) (markP_ok (d := 1) rfl (by decide) (fun h => by cases h.1))]
 obtain ⟨i1, e1⟩ := rp_text h1 h2 (sideL s5 (endsL s5.data.toList)) _ (i + 1) (out ++ [textP (toB buf)]) (openP l0) 1 [] (runs_side _ n5) (side_ends s5)
 rw [e1, List.nil_append]
 obtain ⟨b5, f5⟩ := side_back s5
 obtain ⟨b6, f6⟩ := side_back s6
 obtain ⟨b7, f7⟩ := side_back s7
 cases hb with
 | false =>
  obtain ⟨hs6, hl1⟩ : s6.toList.isEmpty = true ∧ l1.toList.isEmpty = true := by simpa using hbb
  obtain rfl := empty_is hs6
  obtain rfl := empty_is hl1
  simp only [Bool.false_eq_true, if_false, List.nil_append]
  rw [rp_mark h1 h2 61 (lacksB s5 (endsL s5.data.toList)) ⟨#[]⟩ _ i1 _ ⟨out ++ [textP (toB buf)], leftP (openP l0) s5, 3, []⟩ (may_mid _) ((markP_ok (d := 3) rfl (by decide) f5).trans (by simp only; rw [b5]; rfl))]
  obtain ⟨i2, e2⟩ := rp_text h1 h2 (sideL s7 (endsL s7.data.toList)) (markL 62 (lacksB s7 (endsL s7.data.toList)) l2.data.toList w.toNat ++ b) (i1 + 1) (out ++ [textP (toB buf)]) (leftP (openP l0) s5) 3 [] (runs_side _ n7) (side_ends s7)
  rw [e2, List.nil_append]
  rw [rp_mark h1 h2 62 (lacksB s7 (endsL s7.data.toList)) l2 _ i2 _ ⟨out ++ [textP (toB buf)] ++ [closeP (leftP (openP l0) s5) s7 l2], closeP (leftP (openP l0) s5) s7 l2, 0, []⟩ (may_close _ l2 p2) ((markP_ok (d := 0) rfl (by decide) f7).trans (by simp only; rw [b7]; rfl))]
  exact ⟨i2 + 1, _, by rw [List.append_assoc]; rfl⟩
 | true =>
  simp only [if_true, List.append_assoc]
  rw [rp_mark h1 h2 124 (lacksB s5 (endsL s5.data.toList)) l1 _ i1 _ ⟨out ++ [textP (toB buf)], hasP (leftP (openP l0) s5) l1, 2, []⟩ (may_base _ l1 p1) ((markP_ok (d := 2) rfl (by decide) f5).trans (by simp only; rw [b5]; rfl))]
  obtain ⟨i2, e2⟩ := rp_text h1 h2 (sideL s6 (endsL s6.data.toList)) (markL 61 (lacksB s6 (endsL s6.data.toList)) (⟨#[]⟩ : ByteArray).data.toList w.toNat ++ (sideL s7 (endsL s7.data.toList) ++ (markL 62 (lacksB s7 (endsL s7.data.toList)) l2.data.toList w.toNat ++ b))) (i1 + 1) (out ++ [textP (toB buf)]) (hasP (leftP (openP l0) s5) l1) 2 [] (runs_side _ n6) (side_ends s6)
  rw [e2, List.nil_append]
  rw [rp_mark h1 h2 61 (lacksB s6 (endsL s6.data.toList)) ⟨#[]⟩ _ i2 _ ⟨out ++ [textP (toB buf)], baseP (hasP (leftP (openP l0) s5) l1) s6, 3, []⟩ (may_mid _) ((markP_ok (d := 3) rfl (by decide) f6).trans (by simp only; rw [b6]; rfl))]
  obtain ⟨i3, e3⟩ := rp_text h1 h2 (sideL s7 (endsL s7.data.toList)) (markL 62 (lacksB s7 (endsL s7.data.toList)) l2.data.toList w.toNat ++ b) (i2 + 1) (out ++ [textP (toB buf)]) (baseP (hasP (leftP (openP l0) s5) l1) s6) 3 [] (runs_side _ n7) (side_ends s7)
  rw [e3, List.nil_append]
  rw [rp_mark h1 h2 62 (lacksB s7 (endsL s7.data.toList)) l2 _ i3 _ ⟨out ++ [textP (toB buf)] ++ [closeP (baseP (hasP (leftP (openP l0) s5) l1) s6) s7 l2], closeP (baseP (hasP (leftP (openP l0) s5) l1) s6) s7 l2, 0, []⟩ (may_close _ l2 p2) ((markP_ok (d := 0) rfl (by decide) f7).trans (by simp only; rw [b7]; rfl))]
  exact ⟨i3 + 1, _, by rw [List.append_assoc]; rfl⟩
theorem hunk_runs {w : Int} (h1 : 1 ≤ w) (x : S109) (hp : plainP x = true) (hn : narrowerP w x = true) : Runs w.toNat (hunkQ w x) ∧ endsL (hunkQ w x) = true := by
 obtain ⟨p0, p1, p2⟩ := plain_three hp
 obtain ⟨n4, n5, n6, n7⟩ := narrow_four hn
 have hw : 1 ≤ w.toNat := by omega
 have m60 := fun b => runs_app (n := w.toNat) (b := b) (.inl (mark_ends 60 false x.f0.data.toList w.toNat)) (mark_runs 60 false x.f0 w.toNat hw (may_open _ p0))
 have m124 := fun b fl => runs_app (n := w.toNat) (b := b) (.inl (mark_ends 124 fl x.f1.data.toList w.toNat)) (mark_runs 124 fl x.f1 w.toNat hw (may_base fl _ p1))
 have m61 := fun b fl => runs_app (n := w.toNat) (b := b) (.inl (mark_ends 61 fl (⟨#[]⟩ : ByteArray).data.toList w.toNat)) (mark_runs 61 fl ⟨#[]⟩ w.toNat hw (may_mid fl))
 have s5 := fun b => runs_app (n := w.toNat) (b := b) (side_ends x.f5) ((runs_side _ n5).mono (Nat.sub_le ..))
 have s6 := fun b => runs_app (n := w.toNat) (b := b) (side_ends x.f6) ((runs_side _ n6).mono (Nat.sub_le ..))
 have s7 := fun b => runs_app (n := w.toNat) (b := b) (side_ends x.f7) ((runs_side _ n7).mono (Nat.sub_le ..))
 have m62 := fun fl => mark_runs 62 fl x.f2 w.toNat hw (may_close fl _ p2)
 unfold hunkQ hunkL
 have e0 : (to106 x).f0.f0 = x.f0 := rfl
 have e1 : (to106 x).f0.f1 = x.f1 := rfl
 have e2 : (to106 x).f0.f2 = x.f2 := rfl
 have e3 : (to106 x).f3 = x.f5 := rfl
 have e4 : (to106 x).f4 = x.f6 := rfl
 have e5 : (to106 x).f5 = x.f7 := rfl
 have e6 : (to106 x).f6 = x.f8 := rfl
 rw [e0, e1, e2, e3, e4, e5, e6]
 simp only [List.append_assoc, line60, line124, line61, line62]
 cases x.f8 with
 | false =>
  simp only [Bool.false_eq_true, if_false, List.nil_append]
  exact ⟨m60 _ (s5 _ (m61 _ _ (s7 _ (m62 _)))), ends_app _ _ (ends_app _ _ (ends_app _ _ (ends_app _ _ (mark_ends ..))))⟩
 | true =>
  simp only [if_true, List.append_assoc]
  exact ⟨m60 _ (s5 _ (m124 _ _ (s6 _ (m61 _ _ (s7 _ (m62 _)))))), ends_app _ _ (ends_app _ _ (ends_app _ _ (ends_app _ _ (ends_app _ _ (ends_app _ _ (mark_ends ..))))))⟩
theorem isText_textP (s : ByteArray) : isTextP (textP s) = true := by
 unfold isTextP textP; simp only [bytes_toList]; rfl
theorem text_is {x : S109} (h : isTextP x = true) : x = textP x.f4 := by
 obtain ⟨l0, l1, l2, hk, tx, s5, s6, s7, hb⟩ := x
 unfold isTextP at h
 simp only [Bool.and_eq_true, Bool.not_eq_true'] at h
 obtain ⟨h0, h1, h2, rfl, h5, h6, h7, rfl⟩ := h
 rw [empty_is h0, empty_is h1, empty_is h2, empty_is h5, empty_is h6, empty_is h7]; rfl
def pendP : List UInt8 → List S109
 | [] => []
 | c :: t => [textP (toB (c :: t))]
theorem pend_text {s : ByteArray} (h : s.toList.isEmpty = false) : pendP s.data.toList = [textP s] := by
 rw [bytes_toList] at h
 cases hs : s.data.toList with
 | nil => rw [hs] at h; cases h
 | cons c t =>
  have e : toB (c :: t) = s := by rw [← hs, toB_data]
  show [textP (toB (c :: t))] = [textP s]
  rw [e]
theorem fold_pend (buf : List UInt8) (d r : List S109) (h : Joined (d ++ pendP buf ++ r)) : (textP (toB buf) :: r).foldl ofStep d = d ++ pendP buf ++ r := by
 cases buf with
 | nil =>
  have hn : isNoneP (textP (toB [])) = true := by unfold isNoneP; rw [isText_textP]; show (toB []).toList.isEmpty = true; rw [bytes_toList]; rfl
  rw [List.foldl_cons, ofStep_none d _ hn]
  have := fold_joined r d (by simpa [pendP] using h)
  simpa [pendP] using this
 | cons c t =>
  have := fold_joined (textP (toB (c :: t)) :: r) d (by simpa [pendP] using h)
  simpa [pendP] using this
theorem joined_left {a b : List S109} (h : Joined (a ++ b)) : Joined a :=
 ⟨fun x hx => h.1 x (List.mem_append_left _ hx), fun u x y v e => h.2 u x y (v ++ b) (by rw [e]; simp)⟩
theorem joined_right : ∀ (l : List S109) (tx : Bool), rightP tx l = true → Joined l ∧ (tx = true → ∀ x r, l = x :: r → ¬ isTextP x = true)
 | [], tx, h => ⟨joined_nil, fun _ x r e => by cases e⟩
 | x :: r, tx, h => by
  rw [rightP_cons] at h
  simp only [Bool.and_eq_true] at h
  obtain ⟨ho, hp, ht, hr⟩ := h
  obtain ⟨⟨j1, j2⟩, j3⟩ := joined_right r _ hr
  refine ⟨⟨fun y hy => ?_, fun u a b v e => ?_⟩, fun htx y r' e => ?_⟩
  ·rcases List.mem_cons.1 hy with rfl | hy
   ·intro hn
    unfold isNoneP at hn
    simp only [Bool.and_eq_true] at hn
    rw [hn.1, hn.2] at ht
    simp at ht
   ·exact j1 y hy
  ·cases u with
   | nil =>
    obtain ⟨rfl, e2⟩ := List.cons.inj e
    exact fun hc => j3 hc.1 b v e2 hc.2
   | cons c u => exact j2 u a b v (List.cons.inj e).2
  ·obtain ⟨rfl, _⟩ := List.cons.inj e
   intro hc
   rw [hc, htx] at ht
   simp at ht
theorem part_print (w : Int) (x : S109) (r : List S109) (hs : sizesP x ≤ 1000000000) : printL w ((x :: r).map to106) = x.f4.data.toList ++ ((if x.f3 = true then hunkQ w x else []) ++ printL w (r.map to106)) := by
 have hx := sizes_le hs
 have e3 : sufQ (to106 x).f3 = endsL x.f5.data.toList := sufQ_eq x.f5 (by omega)
 have e4 : sufQ (to106 x).f4 = endsL x.f6.data.toList := sufQ_eq x.f6 (by omega)
 have e5 : sufQ (to106 x).f5 = endsL x.f7.data.toList := sufQ_eq x.f7 (by omega)
 have e : printL w ((x :: r).map to106) = partL w (to106 x) ++ printL w (r.map to106) := by simp [printL]
 rw [e]
 unfold partL hunkQ
 rw [e3, e4, e5, List.append_assoc]
 rfl
theorem rp_parts {w : Int} (h1 : 1 ≤ w) (h2 : w ≤ 1073741824) : ∀ (l : List S109) (tx : Bool) (i : Int) (out : List S109) (now : S109) (buf : List UInt8) (d : List S109), rightP tx l = true → (∀ x ∈ l, narrowerP w x = true) → (∀ x ∈ l, sizesP x ≤ 1000000000) →
  ofP out = d → Joined (d ++ pendP buf ++ l) →
  ∃ out' now' buf', rpB w (printL w (l.map to106)) i ⟨out, now, 0, buf⟩ = (⟨out', now', 0, buf'⟩, 0, 0) ∧ ofP (out' ++ [textP (toB buf')]) = d ++ pendP buf ++ l
 | [], tx, i, out, now, buf, d, hr, hn, hs, ho, hj => by
  refine ⟨out, now, buf, rfl, ?_⟩
  have := fold_pend buf d [] hj
  unfold ofP at ho ⊢
  rw [List.foldl_append, ho]; exact this
 | x :: r, tx, i, out, now, buf, d, hr, hn, hs, ho, hj => by
  rw [rightP_cons] at hr
  simp only [Bool.and_eq_true] at hr
  obtain ⟨hone, hplain, htx, hr'⟩ := hr
  have hnx := hn x (List.mem_cons_self ..)
  have hn' : ∀ y ∈ r, narrowerP w y = true := fun y hy => hn y (List.mem_cons_of_mem _ hy)
  have hs' : ∀ y ∈ r, sizesP y ≤ 1000000000 := fun y hy => hs y (List.mem_cons_of_mem _ hy)
  rw [part_print w x r (hs x (List.mem_cons_self ..))]
  by_cases ht : isTextP x = true
  ·rw [text_hunk x ht]
   simp only [Bool.false_eq_true, if_false, List.nil_append]
   rw [ht] at htx
   simp only [Bool.not_true, Bool.false_or, Bool.and_eq_true, Bool.or_eq_true, Bool.not_eq_true'] at htx
   have hb : buf = [] := by
    cases buf with
    | nil => rfl
    | cons c t => exact absurd ⟨isText_textP _, ht⟩ (hj.2 d (textP (toB (c :: t))) x r (by simp [pendP]))
   subst hb
   have ep : pendP x.f4.data.toList = [x] := by rw [pend_text htx.2.1, ← text_is ht]
   have hj2 : Joined (d ++ pendP x.f4.data.toList ++ r) := by rw [ep]; simpa [pendP] using hj
   have hf := (narrow_four hnx).1
   have hrun : Runs (w.toNat - 1) x.f4.data.toList := (runs_text x.f4).mono (by have := textRun_bound x.f4; omega)
   have el : d ++ pendP [] ++ x :: r = d ++ pendP x.f4.data.toList ++ r := by rw [ep]; simp [pendP]
   rcases htx.2.2 with he | he
   ·obtain rfl := List.isEmpty_iff.1 he
    have e0 : printL w (([] : List S109).map to106) = [] := rfl
    rw [e0, List.append_nil, rp_last h1 h2 _ i _ hrun]
    refine ⟨out, now, _, rfl, ?_⟩
    have := fold_pend x.f4.data.toList d [] hj2
    unfold ofP at ho ⊢
    rw [List.foldl_append, ho, el]; exact this
   ·obtain ⟨i', e⟩ := rp_text h1 h2 x.f4.data.toList (printL w (r.map to106)) i out now 0 [] hrun (.inl he)
    rw [e, el, List.nil_append]
    exact rp_parts h1 h2 r _ i' out now x.f4.data.toList d hr' hn' hs' ho hj2
  ·have hk : x.f3 = true := by
    have := one_hunk x hone
    cases h3 : x.f3 with
    | true => rfl
    | false => rw [h3] at this; exact absurd this ht
   have hc : confP x = true := by
    unfold oneP at hone
    simp only [Bool.or_eq_true] at hone
    exact hone.resolve_left ht
   have h4 : x.f4.data.toList = [] := by
    unfold confP at hc
    simp only [Bool.and_eq_true] at hc
    rw [← bytes_toList]; exact List.isEmpty_iff.1 hc.2.1
   rw [if_pos hk, h4, List.nil_append]
   obtain ⟨i', now', e⟩ := rp_hunk h1 h2 x hc hplain hnx (printL w (r.map to106)) i out now buf
   rw [e]
   have el : d ++ pendP buf ++ x :: r = (d ++ pendP buf ++ [x]) ++ pendP [] ++ r := by simp [pendP]
   rw [el] at hj ⊢
   refine rp_parts h1 h2 r _ i' _ now' [] _ hr' hn' hs' ?_ hj
   have := fold_pend buf d [x] (joined_left (by rw [List.append_assoc] at hj; exact hj))
   unfold ofP at ho ⊢
   rw [List.foldl_append, ho]; exact this
theorem parse_back {l : List S109} {w : Int} (h1 : 1 ≤ w) (h2 : w ≤ 1073741824) (hr : rightP false l = true) (hf : ∀ x ∈ l, narrowerP w x = true) (hs : ∀ x ∈ l, sizesP x ≤ 1000000000) :
  parseP (toB (printL w (l.map to106))) w = (l, 0, 0) := by
 obtain ⟨out', now', buf', e, ho⟩ := rp_parts h1 h2 l false 0 [] (textP ⟨#[]⟩) [] [] hr hf hs rfl (by simpa [pendP] using (joined_right l false hr).1)
 unfold parseP
 rw [if_pos ⟨h1, h2⟩]
 have e2 : readP w (splitB (toB (printL w (l.map to106)))) 0 newP = (⟨out', now', 0, buf'⟩, 0, 0) := by unfold splitB; rw [data_toB]; exact e
 rw [e2]
 unfold lastP
 simp only [if_true]
 rw [ho]; rfl
theorem print_runs {w : Int} (h1 : 1 ≤ w) : ∀ (l : List S109) (tx : Bool), rightP tx l = true → (∀ x ∈ l, narrowerP w x = true) → (∀ x ∈ l, sizesP x ≤ 1000000000) → Runs w.toNat (printL w (l.map to106))
 | [], _, _, _, _ => runs_nil _
 | x :: r, tx, hr, hn, hs => by
  rw [rightP_cons] at hr
  simp only [Bool.and_eq_true] at hr
  obtain ⟨hone, hplain, htx, hr'⟩ := hr
  have hnx := hn x (List.mem_cons_self ..)
  have ih := print_runs h1 r _ hr' (fun y hy => hn y (List.mem_cons_of_mem _ hy)) (fun y hy => hs y (List.mem_cons_of_mem _ hy))
  rw [part_print w x r (hs x (List.mem_cons_self ..))]
  have hrun : Runs w.toNat x.f4.data.toList := (runs_text x.f4).mono (by have := textRun_bound x.f4; have := (narrow_four hnx).1; omega)
  by_cases ht : isTextP x = true
  ·rw [text_hunk x ht]
   simp only [Bool.false_eq_true, if_false, List.nil_append]
   rw [ht] at htx
   simp only [Bool.not_true, Bool.false_or, Bool.and_eq_true, Bool.or_eq_true, Bool.not_eq_true'] at htx
   rcases htx.2.2 with he | he
   ·obtain rfl := List.isEmpty_iff.1 he
    have e0 : printL w (([] : List S109).map to106) = [] := rfl
    rw [e0, List.append_nil]; exact hrun
   ·exact runs_app (.inl he) hrun ih
  ·have hc : confP x = true := by
    unfold oneP at hone
    simp only [Bool.or_eq_true] at hone
    exact hone.resolve_left ht
   have h4 : x.f4.data.toList = [] := by
    unfold confP at hc
    simp only [Bool.and_eq_true] at hc
    rw [← bytes_toList]; exact List.isEmpty_iff.1 hc.2.1
   rw [h4, List.nil_append]
   obtain ⟨a, b⟩ := hunk_runs h1 x hplain hnx
   split
   ·exact runs_app (.inl b) a ih
   ·exact ih
theorem parse_text {s : ByteArray} {w : Int} (h1 : 1 ≤ w) (h2 : w ≤ 1073741824) (h : Runs (w.toNat - 1) s.data.toList) : parseP s w = (ofP [textP s], 0, 0) := by
 unfold parseP
 rw [if_pos ⟨h1, h2⟩]
 have e := rp_last h1 h2 s.data.toList 0 newP h
 unfold rpB at e
 have e2 : splitB s = (splitL s.data.toList).map toB := rfl
 rw [e2, e]
 unfold lastP newP
 simp only [if_true, List.nil_append, toB_data]
theorem parse_wide {l : List S109} {w : Int} (h1 : 1 ≤ w) (h2 : w + 1 ≤ 1073741824) (hr : rightP false l = true) (hf : ∀ x ∈ l, narrowerP w x = true) (hs : ∀ x ∈ l, sizesP x ≤ 1000000000) :
  parseP (toB (printL w (l.map to106))) (w + 1) = (ofP [textP (toB (printL w (l.map to106)))], 0, 0) :=
 parse_text (by omega) h2 (by rw [data_toB]; exact (print_runs h1 l false hr hf hs).mono (by omega))
#print axioms parse_back
#print axioms parse_wide
end Go.Proofs.Ytfiamddinkokbaa.F
end
