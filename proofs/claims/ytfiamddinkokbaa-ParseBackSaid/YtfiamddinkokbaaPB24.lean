/- Texts joined into one file (wip/tools/pack.py): Fits, Fn73, MarkPrint, Fn47, Fn45, FeqA60, Fn53, Fn10, PureMarkReads, Fn50 -/
import Derived.Test.YtfiamddinkokbaaPB23
import Derived.Test.YtfiamddinkokbaaPB2
import Derived.Shelf.SlicesQ.IndexFunc
import Derived.Deep.RegionHeld3
import Derived.Test.YtfiamddinkokbaaPB3
import Derived.Test.YtfiamddinkokbaaPB21
import Derived.Test.YtfiamddinkokbaaPB17
import Derived.Test.YtfiamddinkokbaaPB19
import Derived.Test.YtfiamddinkokbaaPB20
set_option linter.unusedVariables false
set_option linter.unusedSimpArgs false
section
namespace Go.Proofs.Ytfiamddinkokbaa.F
open Go.RowKit Go.Shelf Go.Proofs.YtfiamddinkokbaaW.PrintWords
def texts106 (x : S106) : List ByteArray := [x.f2, x.f3, x.f4, x.f5]
def agg106 (x : S106) : Value := .agg #[.string x.f0.f0, .string x.f0.f1, .string x.f0.f2, .bool x.f1, .string x.f2, .string x.f3, .string x.f4, .string x.f5, .bool x.f6]
def widest (k : Nat) (x : S106) : Int := (doc_run.f k (texts106 x)).getD 0
theorem fits_lit (W : World) (n : Nat) (t : TypeId) (a b c d : ByteArray) (h : W.heap[n]? = some (.cells #[.string a, .string b, .string c, .string d] t (0, 0))) : Kd.C Kd.string W (some ⟨n, 0, none⟩) 4 [a, b, c, d] := by
 refine ⟨rfl, by omega, fun _ => ⟨_, rfl, ?_⟩⟩
 intro j p hj
 refine ⟨[.string p], rfl, rfl, ?_⟩
 intro i u hi
 have hi0 : i = 0 := by
  match i, hi with
  | 0, _ => rfl
 subst hi0
 obtain rfl : Value.string p = u := by simpa using hi
 rw [add_plain]
 have hz : (Kd.string).sz = 1 := rfl
 rw [hz, Nat.mul_one, Nat.add_zero]
 have : ∀ i v, (#[Value.string a, .string b, .string c, .string d] : Array Value)[i]? = some v → W.cell? ⟨n, i, none⟩ = some v := by
  intro i v hv
  exact (blk_cell h i).trans hv
 apply this
 match j, hj with
 | 0, hj => simpa using hj
 | 1, hj => simpa using hj
 | 2, hj => simpa using hj
 | 3, hj => simpa using hj
theorem fits_new (W : World) (o : Obj) : (W.alloc o).drew.heap[W.heap.size]? = some o := World.alloc_heap_new W o
theorem fits_run (k n : Nat) (t : TypeId) (a b c d : ByteArray) (r : Int) (W : World) (h : W.heap[n]? = some (.cells #[.string a, .string b, .string c, .string d] t (0, 0))) (hr : doc_run.f k [a, b, c, d] = some r) :
  Calls Try.prog 71 #[.slice (some ⟨n, 0, none⟩) 4 4] W fun e w' => e = .returned (.int .i64 r) ∧ Below W.heap.size W w' :=
 doc_run.calls k (some ⟨n, 0, none⟩) 4 [a, b, c, d] r W (fits_lit W n t a b c d h) (Nat.le_refl 4) hr
theorem fits_keep {w0 W w' : World} {a0 a1 a2 a3 a4 : Addr} {v0 v1 v2 v3 v4 : Value} (hb : Below W.heap.size W w')
  (h : W.cell? a0 = some v0 ∧ W.cell? a1 = some v1 ∧ W.cell? a2 = some v2 ∧ W.cell? a3 = some v3 ∧ W.cell? a4 = some v4 ∧ Below w0.heap.size w0 W) :
  w'.cell? a0 = some v0 ∧ w'.cell? a1 = some v1 ∧ w'.cell? a2 = some v2 ∧ w'.cell? a3 = some v3 ∧ w'.cell? a4 = some v4 ∧ Below w0.heap.size w0 w' := by
 obtain ⟨h0, h1, h2, h3, h4, h5⟩ := h
 exact ⟨(hb.cell (World.block_lt_of_cell? W _ h0)).trans h0, (hb.cell (World.block_lt_of_cell? W _ h1)).trans h1, (hb.cell (World.block_lt_of_cell? W _ h2)).trans h2, (hb.cell (World.block_lt_of_cell? W _ h3)).trans h3,
  (hb.cell (World.block_lt_of_cell? W _ h4)).trans h4, below_step h5 hb⟩
set_option maxHeartbeats 4000000 in
set_option maxRecDepth 100000 in
theorem fits_pred (k B : Nat) (lim : Int) (w W : World) (x : S106) (r : Int) (hB : B < w.heap.size) (hc : w.cell? ⟨B, 0, none⟩ = some (.int .i64 lim)) (hb : Below w.heap.size w W)
  (hr : doc_run.f k (texts106 x) = some r) :
  Calls Try.prog 117 (#[agg106 x] ++ #[.pointer (some ⟨B, 0, none⟩)]) W fun e w' => e = .returned (.bool (decide (lim ≤ r))) ∧ Below w.heap.size w w' := by
 have hW : W.cell? ⟨B, 0, none⟩ = some (.int .i64 lim) := (hb.cell (p := ⟨B, 0, none⟩) hB).trans hc
 have hBW : B < W.heap.size := World.block_lt_of_cell? W _ hW
 show Calls Try.prog 117 #[agg106 x, .pointer (some ⟨B, 0, none⟩)] W _
 unfold agg106
 obtain ⟨H0, hH⟩ : ∃ H0, W.heap.size = H0 := ⟨_, rfl⟩
 clear hc hB
 obtain ⟨⟨l1, l2, l3⟩, b1, s2, s3, s4, s5, b6⟩ := x
 have HX : Aside0 (doc_run.f k [s2, s3, s4, s5] = some r) := ⟨hr⟩
 clear hr
 dsimp only
 go_enter Try.func117, Try.ntmps117
 go_wp2_with fail
 try rw [hH]
 have hbox : (W.alloc (Obj.cells #[Value.string l1, Value.string l2, Value.string l3, Value.bool b1, Value.string s2, Value.string s3, Value.string s4, Value.string s5, Value.bool b6] 106)).heap[H0]? = some (Obj.cells #[Value.string l1, Value.string l2, Value.string l3, Value.bool b1, Value.string s2, Value.string s3, Value.string s4, Value.string s5, Value.bool b6] 106) := by
  rw [← hH]; exact World.alloc_heap_new _ _
 have hbel : Below w.heap.size w (W.alloc (Obj.cells #[Value.string l1, Value.string l2, Value.string l3, Value.bool b1, Value.string s2, Value.string s3, Value.string s4, Value.string s5, Value.bool b6] 106)) := below_alloc hb _
 have hlim : (W.alloc (Obj.cells #[Value.string l1, Value.string l2, Value.string l3, Value.bool b1, Value.string s2, Value.string s3, Value.string s4, Value.string s5, Value.bool b6] 106)).cell? ⟨B, 0, none⟩ = some (.int .i64 lim) :=
  ((below_alloc (Below.refl _ _) _).cell hBW).trans hW
 clear hb hW hBW hH
 generalize W.alloc (Obj.cells #[Value.string l1, Value.string l2, Value.string l3, Value.bool b1, Value.string s2, Value.string s3, Value.string s4, Value.string s5, Value.bool b6] 106) = W1 at hbox hbel hlim ⊢
 have e4 : W1.cell? ⟨H0, 4, none⟩ = some (.string s2) := (blk_cell hbox 4).trans rfl
 have e5 : W1.cell? ⟨H0, 5, none⟩ = some (.string s3) := (blk_cell hbox 5).trans rfl
 have e6 : W1.cell? ⟨H0, 6, none⟩ = some (.string s4) := (blk_cell hbox 6).trans rfl
 have e7 : W1.cell? ⟨H0, 7, none⟩ = some (.string s5) := (blk_cell hbox 7).trans rfl
 go_region_held3 (fun w' => w'.cell? ⟨B, 0, none⟩ = some (.int .i64 lim) ∧ w'.cell? ⟨H0, 4, none⟩ = some (.string s2) ∧ w'.cell? ⟨H0, 5, none⟩ = some (.string s3) ∧ w'.cell? ⟨H0, 6, none⟩ = some (.string s4) ∧ w'.cell? ⟨H0, 7, none⟩ = some (.string s5) ∧ Below w.heap.size w w')
  ((first | exact fits_keep (by first | assumption | exact below_drew (below_alloc (Below.refl _ _) _) | exact below_alloc (Below.refl _ _) _ | exact below_drew (Below.refl _ _)) (by first | assumption | (refine ⟨?_, ?_, ?_, ?_, ?_, ?_⟩ <;> assumption))))
  (first | (go_at_call 71; refine (fits_run k _ 9 s2 s3 s4 s5 r _ (fits_new _ _) HX.out).mono ?_; rintro e w' ⟨rfl, hb'⟩))
 all_goals go_wp2
 all_goals go_ret
 all_goals (refine ⟨rfl, ?_⟩; first | assumption | (go_split_ands; assumption))
instance inhab106 : Inhabited S106 := ⟨z106⟩
theorem getD106 (l : List S106) (j : Nat) : l[j]! = l.getD j z106 := by rw [List.getElem!_eq_getElem?_getD, List.getD_eq_getElem?_getD]; rfl
def wide (k : Nat) (lim : Int) (x : S106) : Bool := decide (lim ≤ widest k x)
def fitsOk (k : Nat) (l : List S106) : Bool := l.all fun x => (doc_run.f k (texts106 x)).isSome
set_option maxHeartbeats 4000000 in
set_option maxRecDepth 100000 in
theorem fits_index (k B : Nat) (lim : Int) (A : Option Addr) (c : Nat) (l : List S106) (w : World) (hB : B < w.heap.size) (hc : w.cell? ⟨B, 0, none⟩ = some (.int .i64 lim))
  (hr : Kd.C k106 w A l.length l) (hok : fitsOk k l = true) :
  Calls Try.prog 143 #[.slice A l.length c, .func (.func 117) #[] #[.pointer (some ⟨B, 0, none⟩)]] w fun e w' =>
   e = .returned (.int .i64 (Lib.idxBy (fun _ y => wide k lim y) l z106)) ∧ Below w.heap.size w w' := by
 have eg : ∀ args w, (callFunc 117 args).run Try.prog w = .ok (.enter 117 args) w := enters_of Try.func117 (by kernel_rfl) rfl
 have hrun : ∀ x ∈ l, doc_run.f k (texts106 x) = some (widest k x) := by
  intro x hx
  have h1 := List.all_eq_true.1 hok x hx
  obtain ⟨r, hr⟩ := Option.isSome_iff_exists.1 h1
  unfold widest
  rw [hr]; rfl
 have hlen : l.length ≤ 9223372036854775807 := hr.2.1
 have hpred : ∀ (W : World) (x : S106), x ∈ l → Below w.heap.size w W → Calls Try.prog 117 (#[agg106 x] ++ #[.pointer (some ⟨B, 0, none⟩)]) W fun e w' => e = .returned (.bool (wide k lim x)) ∧ Below w.heap.size w w' :=
  fun W x hx hb => fits_pred k B lim w W x (widest k x) hB hc hb (hrun x hx)
 have HR0 := Aside0.mk hr
 clear hr hc hB hok hrun
 go_enter Try.func143, Try.ntmps143
 go_wp2
 go_loopg [5, 8] l.length (fun gg _ s8 wr => ∃ kk : Nat, kk ≤ l.length ∧ l.length - kk ≤ gg ∧ s8 = .int .i64 kk ∧ Aside (Below w.heap.size w wr) ∧ Aside (∀ j, j < kk → wide k lim (l.getD j z106) = false))
 case atStart => exact ⟨0, Nat.zero_le _, by omega, rfl, Below.refl _ w, fun j hj => absurd hj (Nat.not_lt_zero _)⟩
 case round =>
  obtain ⟨kk, hkk, hg, rfl, BW, AA⟩ := hrel
  by_cases hlt : kk < l.length
  ·have hltz : (kk : Int) < (l.length : Int) := by omega
   obtain ⟨ad, rfl, hx0, hx1, hx2, hx3, hx4, hx5, hx6, hx7, hx8⟩ := at_T106 (Kd.C_below HR0.out BW.out) (kk : Int) (by omega) hltz
   have hcall := hpred wr (l.getD kk z106) (by rw [List.getD_eq_getElem?_getD, List.getElem?_eq_getElem hlt]; exact List.getElem_mem hlt) BW.out
   have hrd : rd_T106 l (kk : Int) = l.getD kk z106 := rfl
   rw [Int.toNat_natCast] at hx0 hx1 hx2 hx3 hx4 hx5 hx6 hx7 hx8
   rw [hrd] at hx0 hx1 hx2 hx3 hx4 hx5 hx6 hx7 hx8
   clear hpred hrd
   generalize hy : l.getD kk z106 = y at hx0 hx1 hx2 hx3 hx4 hx5 hx6 hx7 hx8 hcall
   have BB : Aside (l.getD kk z106 = y) := hy
   clear hy
   unfold agg106 at hcall
   obtain ⟨⟨l1, l2, l3⟩, b1, s2, s3, s4, s5, b6⟩ := y
   have p0 : (0 : Int) ≤ (kk : Int) := by omega
   cases hq : wide k lim ⟨⟨l1, l2, l3⟩, b1, s2, s3, s4, s5, b6⟩ with
   | true =>
    rw [hq] at hcall
    go_wp2_with (go_at_fn 117; refine hcall.mono ?_; rintro e w' ⟨rfl, hb'⟩)
    go_ret
    refine ⟨?_, hb'⟩
    have hit := Lib.idxBy_hit (fun _ y => wide k lim y) l l.length kk z106 hlt (Nat.le_refl _) (by show wide k lim l[kk]! = true; rw [getD106, BB.out]; exact hq) (fun j hj => by show wide k lim l[j]! = false; rw [getD106]; exact AA.out j hj)
    rw [List.take_length] at hit
    rw [hit]; rfl
   | false =>
    rw [hq] at hcall
    go_wp2_with (go_at_fn 117; refine hcall.mono ?_; rintro e w' ⟨rfl, hb'⟩)
    go_roundg (l.length - (kk + 1))
    case measure => omega
    case rel =>
     refine ⟨kk + 1, by omega, by omega, by go_num, hb', (show Aside _ from fun j hj => ?_)⟩
     by_cases e : j = kk
     ·subst e
      rw [BB.out]; exact hq
     ·exact AA.out j (by omega)
  ·have hltz : ¬ (kk : Int) < (l.length : Int) := by omega
   have : kk = l.length := by omega
   subst this
   go_wp2
   go_ret
   refine ⟨?_, BW.out⟩
   have miss := Lib.idxBy_miss (fun _ y => wide k lim y) l l.length z106 (fun j hj => by show wide k lim l[j]! = false; rw [getD106]; exact AA.out j hj)
   rw [List.take_length] at miss
   rw [miss]; rfl
theorem fits_contains (k B : Nat) (lim : Int) (A : Option Addr) (c : Nat) (l : List S106) (w : World) (hB : B < w.heap.size) (hc : w.cell? ⟨B, 0, none⟩ = some (.int .i64 lim))
  (hr : Kd.C k106 w A l.length l) (hok : fitsOk k l = true) :
  Calls Try.prog 116 #[.slice A l.length c, .func (.func 117) #[] #[.pointer (some ⟨B, 0, none⟩)]] w fun e w' =>
   e = .returned (.bool (l.any (wide k lim))) ∧ Below w.heap.size w w' := by
 have hcon := fits_index k B lim A c l w hB hc hr hok
 rw [show l.any (wide k lim) = decide (0 ≤ Lib.idxBy (fun _ y => wide k lim y) l z106) from (Lib.idxBy_nonneg_iff (fun _ y => wide k lim y) l z106).symm]
 clear hr hc hok
 generalize Lib.idxBy (fun _ y => wide k lim y) l z106 = r at hcon ⊢
 go_enter Try.func116, Try.ntmps116
 go_wp2_with (go_at_call 143; refine hcon.mono ?_; rintro e w' ⟨rfl, hb'⟩)
 go_ret
 exact ⟨rfl, hb'⟩
def fitsF (k : Nat) (l : List S106) (a1 : Int) : Option Bool := if 1 ≤ a1 then (if fitsOk k l = true then some (!l.any (wide k a1)) else none) else some false
theorem fits_calls (k : Nat) (A : Option Addr) (c : Nat) (l : List S106) (a1 : Int) (r : Bool) (w : World) (hr : Kd.C k106 w A l.length l) (hc : l.length ≤ c) (h : fitsF k l a1 = some r) :
  Calls Try.prog 73 #[.slice A l.length c, .int .i64 a1] w fun e w' => e = .returned (.bool r) ∧ Below w.heap.size w w' := by
 unfold fitsF at h
 by_cases h1 : 1 ≤ a1
 ·rw [if_pos h1] at h
  by_cases h2 : fitsOk k l = true
  ·rw [if_pos h2] at h
   obtain rfl := Option.some.inj h
   have hcon := fits_contains k w.heap.size a1 A c l (w.alloc (.cells #[.int .i64 a1] 3)) (by simp) (by simp) (Kd.C_alloc hr _) h2
   clear hr h2
   generalize l.any (wide k a1) = q at hcon ⊢
   have h1b : decide (1 ≤ a1) = true := decide_eq_true h1
   have h1e := eq_true h1
   go_enter Try.func73, Try.ntmps73
   go_wp2_with (go_at_call 116; refine hcon.mono ?_; rintro e w' ⟨rfl, hb'⟩)
   go_ret
   exact ⟨rfl, below_step (below_alloc (Below.refl _ _) _) hb'⟩
  ·rw [if_neg h2] at h; cases h
 ·rw [if_neg h1] at h
  obtain rfl := Option.some.inj h
  have h1b : decide (1 ≤ a1) = false := decide_eq_false h1
  have h1e := eq_false h1
  go_enter Try.func73, Try.ntmps73
  go_wp2
  go_ret
  exact ⟨rfl, below_alloc (Below.refl _ _) _⟩
theorem fits_mono : ∀ l a1 k, LeO (fitsF k l a1) (fitsF (k + 1) l a1) := by
 intro l a1 k r h
 unfold fitsF at h ⊢
 by_cases h1 : 1 ≤ a1
 ·rw [if_pos h1] at h ⊢
  by_cases h2 : fitsOk k l = true
  ·rw [if_pos h2] at h
   have hx : ∀ x ∈ l, doc_run.f (k + 1) (texts106 x) = doc_run.f k (texts106 x) := by
    intro x hx
    obtain ⟨v, hv⟩ := Option.isSome_iff_exists.1 (List.all_eq_true.1 h2 x hx)
    rw [hv, doc_run.mono _ _ _ hv]
   have h3 : fitsOk (k + 1) l = true := by
    refine List.all_eq_true.2 fun x hm => ?_
    rw [hx x hm]; exact List.all_eq_true.1 h2 x hm
   have h4 : l.any (wide (k + 1) a1) = l.any (wide k a1) := by
    rw [Bool.eq_iff_iff, List.any_eq_true, List.any_eq_true]
    constructor <;> (rintro ⟨x, hm, hw⟩; refine ⟨x, hm, ?_⟩; unfold wide widest at hw ⊢; rw [hx x hm] at *; exact hw)
   rw [if_pos h3, h4]; exact h
  ·rw [if_neg h2] at h; cases h
 ·rw [if_neg h1] at h ⊢; exact h
end Go.Proofs.Ytfiamddinkokbaa.F
end

section
namespace Go.Proofs.Ytfiamddinkokbaa.F
open Go.RowKit Go.Proofs.YtfiamddinkokbaaW.PrintWords Go.Proofs.YtfiamddinkokbaaW.PrintLast Go.Proofs.YtfiamddinkokbaaW.PrintMore
attribute [local go_sem] max2_int min2_int max_two min_two max_three min_three max_four min_four
def doc_Doc_Fits.f (k : Nat) (l0 : List S106) (a1 : Int) : Option Bool := fitsF k l0 a1
theorem doc_Doc_Fits.mono : ∀ l0 a1 k, LeO (doc_Doc_Fits.f k l0 a1) (doc_Doc_Fits.f (k + 1) l0 a1) := fits_mono
theorem doc_Doc_Fits.calls (k : Nat) (A0 : Option Addr) (c0 : Nat) (l0 : List (S106)) (a1 : Int) (r : Bool) (w : World) (hr0 : Kd.C k106 w A0 l0.length l0) (hc0 : l0.length ≤ c0) (h : doc_Doc_Fits.f k l0 a1 = some r) :
  Calls Try.prog 73 #[.slice A0 l0.length c0, .int .i64 a1] w fun e w' => e = .returned (.bool r) ∧ Below w.heap.size w w' := by
 exact fits_calls k A0 c0 l0 a1 r w hr0 hc0 h
end Go.Proofs.Ytfiamddinkokbaa.F
end

section
namespace Go.Proofs.Ytfiamddinkokbaa.F
open Go.RowKit Go.Shelf Go.Proofs.YtfiamddinkokbaaW.PrintWords
def sufQ (s : ByteArray) : Bool := (strings_HasSuffix.f s ⟨#[10]⟩).getD false
def partL (wd : Int) (x : S106) : List UInt8 := x.f2.data.toList ++ (if x.f1 = true then hunkL wd false x (sufQ x.f3) (sufQ x.f4) (sufQ x.f5) else [])
def printL (wd : Int) (l : List S106) : List UInt8 := l.flatMap (partL wd)
def okPart (x : S106) : Bool := decide (x.f0.f0.size ≤ 4000000000) && (decide (x.f0.f1.size ≤ 4000000000) && (decide (x.f0.f2.size ≤ 4000000000) && (decide (x.f2.size ≤ 4000000000) && (decide (x.f3.size ≤ 4000000000) && (decide (x.f4.size ≤ 4000000000) && (decide (x.f5.size ≤ 4000000000) &&
 ((strings_HasSuffix.f x.f3 ⟨#[10]⟩).isSome && ((strings_HasSuffix.f x.f4 ⟨#[10]⟩).isSome && (strings_HasSuffix.f x.f5 ⟨#[10]⟩).isSome))))))))
def printF (k : Nat) (l : List S106) (wd : Int) : Option (ByteArray × Int) :=
 (mark_wide.f wd).bind fun t => if t = true then ((doc_Doc_Right.f k l).bind fun r => if r = true then ((doc_Doc_Fits.f k l wd).bind fun g =>
  if g = true then (if l.all okPart = true ∧ l.length ≤ 2000 ∧ 0 ≤ wd ∧ wd ≤ 1073741824 then some (toB (printL wd l), 0) else none) else some (⟨#[]⟩, 4)) else some (⟨#[]⟩, 11)) else some (⟨#[]⟩, 4)
theorem sufQ_some {s : ByteArray} (h : (strings_HasSuffix.f s ⟨#[10]⟩).isSome = true) : strings_HasSuffix.f s ⟨#[10]⟩ = some (sufQ s) := by
 unfold sufQ
 obtain ⟨q, hq⟩ := Option.isSome_iff_exists.1 h
 rw [hq]; rfl
theorem pr_new (B : Nat) (wd : Int) (W : World) (hB : B ≤ W.heap.size) : Pr B W.heap.size wd false [] (W.alloc (.cells #[.pointer none, .slice none 0 0, .int .i64 wd, .bool false] 129)) :=
 ⟨_, _, ⟨hB, World.alloc_heap_new _ _, rfl, rfl, .inl rfl, World.ownsRowF_nil _ _ _ _, by simp [Value.ownBlock]⟩⟩
set_option maxHeartbeats 4000000 in
set_option maxRecDepth 100000 in
theorem print_wide (A : Option Addr) (c n : Nat) (wd : Int) (w : World) (e0 : mark_wide.f wd = some false) :
  Calls Try.prog 47 #[.slice A n c, .int .i64 wd] w fun e w' => e = .returned (.tuple #[.string ⟨#[]⟩, .int .i64 4]) ∧ Below w.heap.size w w' := by
 have H0 := fun W => mark_wide.calls wd false W e0
 have HB := Aside0.mk (Below.refl w.heap.size w)
 go_enter Try.func47, Try.ntmps47
 go_wp2_with (first | (go_at_call 86; refine (H0 _).mono ?_; rintro e w1 ⟨rfl, nd, rfl⟩))
 go_ret2
 exact ⟨rfl, pw_below_drewN HB.out nd⟩
set_option maxHeartbeats 4000000 in
set_option maxRecDepth 100000 in
theorem print_right (k : Nat) (A : Option Addr) (c : Nat) (l : List S106) (wd : Int) (w : World) (hr : Kd.C k106 w A l.length l) (hc : l.length ≤ c) (e0 : mark_wide.f wd = some true) (e1 : doc_Doc_Right.f k l = some false) :
  Calls Try.prog 47 #[.slice A l.length c, .int .i64 wd] w fun e w' => e = .returned (.tuple #[.string ⟨#[]⟩, .int .i64 11]) ∧ Below w.heap.size w w' := by
 have H0 := fun W => mark_wide.calls wd true W e0
 have H1 := fun W (hb : Below w.heap.size w W) => doc_Doc_Right.calls k A c l false W (Kd.C_below hr hb) hc e1
 have HB := Aside0.mk (Below.refl w.heap.size w)
 clear hr e1 e0
 go_enter Try.func47, Try.ntmps47
 go_wp2_with (first
  | (go_at_call 86; refine (H0 _).mono ?_; rintro e w1 ⟨rfl, nd, rfl⟩; replace HB := Aside0.mk (pw_below_drewN HB.out nd))
  | (go_at_call 72; refine (H1 _ HB.out).mono ?_; rintro e w2 ⟨rfl, hb⟩; replace HB := Aside0.mk (below_step HB.out hb); clear hb))
 go_ret2
 exact ⟨rfl, HB.out⟩
set_option maxHeartbeats 4000000 in
set_option maxRecDepth 100000 in
theorem print_fits (k : Nat) (A : Option Addr) (c : Nat) (l : List S106) (wd : Int) (w : World) (hr : Kd.C k106 w A l.length l) (hc : l.length ≤ c) (e0 : mark_wide.f wd = some true) (e1 : doc_Doc_Right.f k l = some true) (e2 : doc_Doc_Fits.f k l wd = some false) :
  Calls Try.prog 47 #[.slice A l.length c, .int .i64 wd] w fun e w' => e = .returned (.tuple #[.string ⟨#[]⟩, .int .i64 4]) ∧ Below w.heap.size w w' := by
 have H0 := fun W => mark_wide.calls wd true W e0
 have H1 := fun W (hb : Below w.heap.size w W) => doc_Doc_Right.calls k A c l true W (Kd.C_below hr hb) hc e1
 have H2 := fun W (hb : Below w.heap.size w W) => doc_Doc_Fits.calls k A c l wd false W (Kd.C_below hr hb) hc e2
 have HB := Aside0.mk (Below.refl w.heap.size w)
 clear hr e1 e0 e2
 go_enter Try.func47, Try.ntmps47
 go_wp2_with (first
  | (go_at_call 86; refine (H0 _).mono ?_; rintro e w1 ⟨rfl, nd, rfl⟩; replace HB := Aside0.mk (pw_below_drewN HB.out nd))
  | (go_at_call 72; refine (H1 _ HB.out).mono ?_; rintro e w2 ⟨rfl, hb⟩; replace HB := Aside0.mk (below_step HB.out hb); clear hb)
  | (go_at_call 73; refine (H2 _ HB.out).mono ?_; rintro e w2 ⟨rfl, hb⟩; replace HB := Aside0.mk (below_step HB.out hb); clear hb))
 go_ret2
 exact ⟨rfl, HB.out⟩
theorem pr_drew {B b : Nat} {wd : Int} {lk : Bool} {bs : List UInt8} {w : World} (h : Pr B b wd lk bs w) : Pr B b wd lk bs w.drew := h.below (below_drew1 (Below.refl _ _))
theorem partL_length (wd : Int) (w1 : wd ≤ 1073741824) (x : S106) (h : okPart x = true) : (partL wd x).length ≤ 45000000000 := by
 unfold okPart at h
 simp only [Bool.and_eq_true, decide_eq_true_eq] at h
 obtain ⟨z0, z1, z2, ztx, z3, z4, z5, _⟩ := h
 have hz : (⟨#[]⟩ : ByteArray).size = 0 := rfl
 unfold partL
 rw [List.length_append, size_dataL]
 split
 ·unfold hunkL
  simp only [List.length_append]
  have a0 := lineL_length 60 false x.f0.f0 wd w1
  have a1 := sideL_length x.f3 (sufQ x.f3)
  have a3 := lineL_length 61 (if x.f6 = true then lacksB x.f4 (sufQ x.f4) else lacksB x.f3 (sufQ x.f3)) ⟨#[]⟩ wd w1
  have a4 := sideL_length x.f5 (sufQ x.f5)
  have a5 := lineL_length 62 (lacksB x.f5 (sufQ x.f5)) x.f0.f2 wd w1
  have a6 : (if x.f6 = true then lineL 124 (lacksB x.f3 (sufQ x.f3)) x.f0.f1 wd ++ sideL x.f4 (sufQ x.f4) else []).length ≤ 10000000000 := by
   split
   ·rw [List.length_append]
    have b0 := lineL_length 124 (lacksB x.f3 (sufQ x.f3)) x.f0.f1 wd w1
    have b1 := sideL_length x.f4 (sufQ x.f4)
    omega
   ·simp
  omega
 ·simp; omega
theorem printL_length (wd : Int) (w1 : wd ≤ 1073741824) : ∀ l : List S106, (∀ x ∈ l, okPart x = true) → (printL wd l).length ≤ l.length * 45000000000
 | [], _ => by simp [printL]
 | x :: l, h => by
  have h1 := partL_length wd w1 x (h x (by simp))
  have h2 := printL_length wd w1 l (fun y hy => h y (by simp [hy]))
  have e : printL wd (x :: l) = partL wd x ++ printL wd l := by simp [printL]
  rw [e, List.length_append, List.length_cons]
  omega
set_option maxHeartbeats 8000000 in
set_option maxRecDepth 100000 in
theorem print_main (k : Nat) (A : Option Addr) (c : Nat) (l : List S106) (wd : Int) (w : World) (hr : Kd.C k106 w A l.length l) (hc : l.length ≤ c) (e0 : mark_wide.f wd = some true) (e1 : doc_Doc_Right.f k l = some true) (e2 : doc_Doc_Fits.f k l wd = some true)
  (hok : l.all okPart = true) (hn : l.length ≤ 2000) (w0 : 0 ≤ wd) (w1 : wd ≤ 1073741824) :
  Calls Try.prog 47 #[.slice A l.length c, .int .i64 wd] w fun e w' => e = .returned (.tuple #[.string (toB (printL wd l)), .int .i64 0]) ∧ Below w.heap.size w w' := by
 have H0 := fun W => mark_wide.calls wd true W e0
 have H1 := fun W (hb : Below w.heap.size w W) => doc_Doc_Right.calls k A c l true W (Kd.C_below hr hb) hc e1
 have H2 := fun W (hb : Below w.heap.size w W) => doc_Doc_Fits.calls k A c l wd true W (Kd.C_below hr hb) hc e2
 have HR := Aside0.mk hr
 have HB := Aside0.mk (Below.refl w.heap.size w)
 clear hr e1 e0 e2
 go_enter Try.func47, Try.ntmps47
 go_wp2_with (first
  | (go_at_call 86; refine (H0 _).mono ?_; rintro e w1 ⟨rfl, nd, rfl⟩; replace HB := Aside0.mk (pw_below_drewN HB.out nd))
  | (go_at_call 72; refine (H1 _ HB.out).mono ?_; rintro e w2 ⟨rfl, hb⟩; replace HB := Aside0.mk (below_step HB.out hb); clear hb)
  | (go_at_call 73; refine (H2 _ HB.out).mono ?_; rintro e w2 ⟨rfl, hb⟩; replace HB := Aside0.mk (below_step HB.out hb); clear hb))
 have HP := Aside0.mk (pr_new w.heap.size wd w2 HB.out.size)
 replace HB := Aside0.mk (below_step HB.out (below_alloc (Below.refl w2.heap.size w2) (.cells #[.pointer none, .slice none 0 0, .int .i64 wd, .bool false] 129)))
 clear H0 H1 H2
 generalize w2.alloc (.cells #[.pointer none, .slice none 0 0, .int .i64 wd, .bool false] 129) = W at HP HB ⊢
 generalize w2.heap.size = b at HP ⊢
 go_loopg [27] l.length (fun gg s27 wr => ∃ kk : Nat, kk ≤ l.length ∧ l.length - kk ≤ gg ∧ s27 = .int .i64 kk ∧ Aside0 (Below w.heap.size w wr) ∧ Aside0 (Pr w.heap.size b wd false (printL wd (l.take kk)) wr))
 case atStart => exact ⟨0, Nat.zero_le _, by omega, rfl, HB, HP⟩
 case round =>
  clear HB HP
  obtain ⟨kk, hkk, hg, rfl, HB, HP⟩ := hrel
  by_cases hlt : kk < l.length
  ·have hltz : (kk : Int) < (l.length : Int) := by omega
   have p0 : (0 : Int) ≤ (kk : Int) := by omega
   obtain ⟨ad, rfl, hx0, hx1, hx2, hx3, hx4, hx5, hx6, hx7, hx8⟩ := at_T106 (Kd.C_below HR.out HB.out) (kk : Int) p0 hltz
   have hrd : rd_T106 l (kk : Int) = l.getD kk z106 := rfl
   rw [Int.toNat_natCast] at hx0 hx1 hx2 hx3 hx4 hx5 hx6 hx7 hx8
   rw [hrd] at hx0 hx1 hx2 hx3 hx4 hx5 hx6 hx7 hx8
   generalize hy : l.getD kk z106 = y at hx0 hx1 hx2 hx3 hx4 hx5 hx6 hx7 hx8
   obtain ⟨⟨l0, l1, l2⟩, hk, tx, s3, s4, s5, hb⟩ := y
   have hmem : (⟨⟨l0, l1, l2⟩, hk, tx, s3, s4, s5, hb⟩ : S106) ∈ l := by
    rw [← hy, List.getD_eq_getElem?_getD, List.getElem?_eq_getElem hlt]; exact List.getElem_mem hlt
   have ho := List.all_eq_true.1 hok _ hmem
   unfold okPart at ho
   simp only [Bool.and_eq_true, decide_eq_true_eq] at ho
   obtain ⟨z0, z1, z2, ztx, z3, z4, z5, q3, q4, q5⟩ := ho
   have hlen := printL_length wd w1 (l.take kk) (fun x hx => List.all_eq_true.1 hok x (List.mem_of_mem_take hx))
   have hlen2 : (l.take kk).length ≤ 2000 := by rw [List.length_take]; omega
   have hlen3 : (printL wd (l.take kk)).length ≤ 2000 * 45000000000 := Nat.le_trans hlen (Nat.mul_le_mul_right _ hlen2)
   have hstep : printL wd (l.take (kk + 1)) = printL wd (l.take kk) ++ partL wd ⟨⟨l0, l1, l2⟩, hk, tx, s3, s4, s5, hb⟩ := by
    rw [List.take_add_one, List.getElem?_eq_getElem hlt]
    have : l[kk] = ⟨⟨l0, l1, l2⟩, hk, tx, s3, s4, s5, hb⟩ := by rw [← hy, List.getD_eq_getElem?_getD, List.getElem?_eq_getElem hlt]; rfl
    simp [printL, this]
   have HS := Aside0.mk hstep
   have HQ3 := Aside0.mk (sufQ_some q3)
   have HQ4 := Aside0.mk (sufQ_some q4)
   have HQ5 := Aside0.mk (sufQ_some q5)
   generalize printL wd (l.take kk) = cur at HP hlen3 HS
   clear hstep q3 q4 q5 hlen hlen2 hmem hy hrd
   go_wp2_with fail
   have hblk := World.alloc_heap_new wr (.cells #[.string l0, .string l1, .string l2, .bool hk, .string tx, .string s3, .string s4, .string s5, .bool hb] 106)
   have hne : wr.heap.size ≠ b := by have := HP.out.lt; omega
   replace HP := Aside0.mk (HP.out.below (below_alloc (Below.refl wr.heap.size wr) (.cells #[.string l0, .string l1, .string l2, .bool hk, .string tx, .string s3, .string s4, .string s5, .bool hb] 106)))
   replace HB := Aside0.mk (below_step HB.out (below_alloc (Below.refl wr.heap.size wr) (.cells #[.string l0, .string l1, .string l2, .bool hk, .string tx, .string s3, .string s4, .string s5, .bool hb] 106)))
   clear hx0 hx1 hx2 hx3 hx4 hx5 hx6 hx7 hx8
   generalize wr.alloc (.cells #[.string l0, .string l1, .string l2, .bool hk, .string tx, .string s3, .string s4, .string s5, .bool hb] 106) = W2 at *
   generalize wr.heap.size = nb at *
   have k4 := (blk_cell hblk 4).trans (rfl : _ = some (Value.string tx))
   go_region_with ((first
    | (go_at_call 87; refine (pr_write (w := W2.drew) tx (pr_drew HP.out) (by omega) HB.out.size).mono ?_; rintro e W3 ⟨rfl, hp_, hb_, hk_⟩)))
   have hblk3 := hk_.cell (show W2.drew.heap[nb]? = _ from hblk) (by decide) hne
   have j0 := (blk_cell hblk3 0).trans (rfl : _ = some (Value.string l0))
   have j1 := (blk_cell hblk3 1).trans (rfl : _ = some (Value.string l1))
   have j2 := (blk_cell hblk3 2).trans (rfl : _ = some (Value.string l2))
   have j3 := (blk_cell hblk3 3).trans (rfl : _ = some (Value.bool hk))
   have j4 := (blk_cell hblk3 4).trans (rfl : _ = some (Value.string tx))
   have j5 := (blk_cell hblk3 5).trans (rfl : _ = some (Value.string s3))
   have j6 := (blk_cell hblk3 6).trans (rfl : _ = some (Value.string s4))
   have j7 := (blk_cell hblk3 7).trans (rfl : _ = some (Value.string s5))
   have j8 := (blk_cell hblk3 8).trans (rfl : _ = some (Value.bool hb))
   have HP3 := Aside0.mk hp_
   have HB3 := Aside0.mk (below_weaken HB.out (Nat.le_refl _) (pr_drawn hb_))
   clear hblk k4 hp_ hb_ hk_ HP HB hblk3
   generalize ht3 : tx.data.toList = txl at HP3
   have htl : txl.length = tx.size := by rw [← ht3]; exact size_dataL tx
   cases hk with
   | false =>
    go_wp2
    go_roundg (l.length - (kk + 1))
    case measure => omega
    case rel =>
     refine ⟨kk + 1, by omega, by omega, by go_num, HB3, ⟨?_⟩⟩
     rw [HS.out]
     have : partL wd ⟨⟨l0, l1, l2⟩, false, tx, s3, s4, s5, hb⟩ = txl := by unfold partL; simp [ht3]
     rw [this]; exact HP3.out
   | true =>
    go_wp2_with (first
     | (go_at_call 88; refine (pr_hunk ⟨⟨l0, l1, l2⟩, true, tx, s3, s4, s5, hb⟩ _ _ _ HP3.out w0 w1 z0 z1 z2 z3 z4 z5 HQ3.out HQ4.out HQ5.out (by rw [List.length_append]; omega) HB3.out.size).mono ?_; rintro e W4 ⟨rfl, hp4, hb4, _⟩))
    go_roundg (l.length - (kk + 1))
    case measure => omega
    case rel =>
     refine ⟨kk + 1, by omega, by omega, by go_num, ⟨below_weaken HB3.out (Nat.le_refl _) hb4⟩, ⟨?_⟩⟩
     rw [HS.out]
     have : partL wd ⟨⟨l0, l1, l2⟩, true, tx, s3, s4, s5, hb⟩ = txl ++ hunkL wd false ⟨⟨l0, l1, l2⟩, true, tx, s3, s4, s5, hb⟩ (sufQ s3) (sufQ s4) (sufQ s5) := by unfold partL; simp [ht3]
     rw [this, ← List.append_assoc]; exact hp4
  ·obtain rfl : kk = l.length := by omega
   have q1 : ((l.length : Int) < (l.length : Int)) = False := by simp
   rw [List.take_length] at HP
   obtain ⟨p_, v_, hbld⟩ := HP.out
   have HS2 := fun hB => bld_string hbld hB
   go_wp2_with (first
    | (go_at_call 89; refine (HS2 HB.out.size).mono ?_; rintro e W5 ⟨rfl, hb5, _⟩))
   go_ret2
   exact ⟨rfl, below_weaken HB.out (Nat.le_refl _) hb5⟩
theorem print_calls (k : Nat) (A : Option Addr) (c : Nat) (l : List S106) (wd : Int) (r1 : ByteArray) (r2 : Int) (w : World) (hr : Kd.C k106 w A l.length l) (hc : l.length ≤ c) (h : printF k l wd = some (r1, r2)) :
  Calls Try.prog 47 #[.slice A l.length c, .int .i64 wd] w fun e w' => e = .returned (.tuple #[.string r1, .int .i64 r2]) ∧ Below w.heap.size w w' := by
 unfold printF at h
 obtain ⟨t, e0, h⟩ := Option.bind_eq_some_iff.1 h
 cases t with
 | false =>
  rw [if_neg (by decide)] at h
  cases h
  exact print_wide A c l.length wd w e0
 | true =>
  rw [if_pos rfl] at h
  obtain ⟨r, e1, h⟩ := Option.bind_eq_some_iff.1 h
  cases r with
  | false =>
   rw [if_neg (by decide)] at h
   cases h
   exact print_right k A c l wd w hr hc e0 e1
  | true =>
   rw [if_pos rfl] at h
   obtain ⟨g, e2, h⟩ := Option.bind_eq_some_iff.1 h
   cases g with
   | false =>
    rw [if_neg (by decide)] at h
    cases h
    exact print_fits k A c l wd w hr hc e0 e1 e2
   | true =>
    rw [if_pos rfl] at h
    split at h
    ·rename_i hx
     cases h
     exact print_main k A c l wd w hr hc e0 e1 e2 hx.1 hx.2.1 hx.2.2.1 hx.2.2.2
    ·cases h
#print axioms print_calls
end Go.Proofs.Ytfiamddinkokbaa.F
end

section
namespace Go.Proofs.Ytfiamddinkokbaa.F
open Go.RowKit Go.Proofs.YtfiamddinkokbaaW.PrintWords Go.Proofs.YtfiamddinkokbaaW.PrintLast Go.Proofs.YtfiamddinkokbaaW.PrintMore
attribute [local go_sem] max2_int min2_int max_two min_two max_three min_three max_four min_four


theorem eqA60 (d : Nat) (w : World) (x0 y0 : Int) (x1 y1 : Bool) (x2 y2 : ByteArray) :
  (Op.equalIn (d + 2) 60 (.agg #[.int .u8 x0, .bool x1, .string x2]) (.agg #[.int .u8 y0, .bool y1, .string y2])).run Try.prog w = .ok (x0 == y0 && (x1 == y1 && (x2.toList == y2.toList))) w := by
 refine eqA_of Try.underlying60 (by kernel_rfl) ?_
 refine eqf_cons (by rfl) (by go_simp; rfl) (by go_simp; rfl) (by go_simp) ?_
 refine eqf_cons (by rfl) (by go_simp; rfl) (by go_simp; rfl) (by go_simp) ?_
 exact eqf_last (by rfl) (by go_simp; rfl) (by go_simp; rfl) (by go_simp)

end Go.Proofs.Ytfiamddinkokbaa.F
end

section
namespace Go.Proofs.Ytfiamddinkokbaa.F
open Go.RowKit Go.Proofs.YtfiamddinkokbaaW.PrintWords Go.Proofs.YtfiamddinkokbaaW.PrintLast Go.Proofs.YtfiamddinkokbaaW.PrintMore
attribute [local go_sem] max2_int min2_int max_two min_two max_three min_three max_four min_four
attribute [local go_sem high] eqA60

end Go.Proofs.Ytfiamddinkokbaa.F
end

section
namespace Go.Proofs.Ytfiamddinkokbaa.F
open Go.RowKit Go.Proofs.YtfiamddinkokbaaW.PrintWords Go.Proofs.YtfiamddinkokbaaW.PrintLast Go.Proofs.YtfiamddinkokbaaW.PrintMore
def narrowI (w : Int) : Int := if w > 300 ∧ w ≤ 1073741824 then Int.tmod w 300 + 1 else w
end Go.Proofs.Ytfiamddinkokbaa.F
namespace Go.Proofs.Ytfiamddinkokbaa
end Go.Proofs.Ytfiamddinkokbaa
end

section
namespace Go.Proofs.Ytfiamddinkokbaa.F
open Go.RowKit Go.Proofs.YtfiamddinkokbaaW.PrintWords Go.Proofs.YtfiamddinkokbaaW.PrintLast Go.Proofs.YtfiamddinkokbaaW.PrintMore
attribute [local go_sem] max2_int min2_int max_two min_two max_three min_three max_four min_four

end Go.Proofs.Ytfiamddinkokbaa.F
end
