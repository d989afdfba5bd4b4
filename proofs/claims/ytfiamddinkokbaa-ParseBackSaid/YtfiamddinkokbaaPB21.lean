/- Texts joined into one file (wip/tools/pack.py): Hunk, FeqA84, Fn75 -/
import Derived.Test.YtfiamddinkokbaaPB16
import Derived.Test.YtfiamddinkokbaaPB3
set_option linter.unusedVariables false
set_option linter.unusedSimpArgs false
section
namespace Go.Proofs.Ytfiamddinkokbaa.F
open Go.RowKit Go.Shelf Go.Proofs.YtfiamddinkokbaaW.PrintWords
theorem lineB_size (k : Int) (fl : Bool) (lb : ByteArray) (wd : Int) (h1 : wd ≤ 1073741824) : (lineB k fl lb wd).size ≤ 1073741824 + lb.size + 3 := by
 unfold lineB
 rw [ln_size_toB]
 simp only [List.length_append, List.length_replicate]
 have h2 : wd.toNat ≤ 1073741824 := by omega
 have h3 : (if fl = true then ([33] : List UInt8) else []).length ≤ 1 := by split <;> simp
 have h4 : (if lb.toList.isEmpty = true then ([] : List UInt8) else 32 :: lb.data.toList).length ≤ lb.size + 1 := by
  split
  ·simp
  ·simp only [List.length_cons, size_dataL]; omega
 simp only [List.length_singleton]
 omega
theorem sideL_length (s : ByteArray) (q : Bool) : (sideL s q).length ≤ s.size + 1 := by
 unfold sideL
 rw [List.length_append, size_dataL]
 split <;> simp
def lineL (k : Int) (fl : Bool) (lb : ByteArray) (wd : Int) : List UInt8 := (lineB k fl lb wd).data.toList
theorem lineL_length (k : Int) (fl : Bool) (lb : ByteArray) (wd : Int) (h1 : wd ≤ 1073741824) : (lineL k fl lb wd).length ≤ 1073741824 + lb.size + 3 := by
 unfold lineL; rw [size_dataL]; exact lineB_size k fl lb wd h1
def hunkL (wd : Int) (lk : Bool) (x : S106) (qL qB qR : Bool) : List UInt8 :=
 lineL 60 lk x.f0.f0 wd ++ sideL x.f3 qL ++ (if x.f6 = true then lineL 124 (lacksB x.f3 qL) x.f0.f1 wd ++ sideL x.f4 qB else []) ++
  lineL 61 (if x.f6 = true then lacksB x.f4 qB else lacksB x.f3 qL) ⟨#[]⟩ wd ++ sideL x.f5 qR ++ lineL 62 (lacksB x.f5 qR) x.f0.f2 wd
set_option maxHeartbeats 8000000 in
set_option maxRecDepth 100000 in
theorem pr_hunk {B b : Nat} {wd : Int} {lk : Bool} {bs : List UInt8} {w : World} (x : S106) (qL qB qR : Bool) (h : Pr B b wd lk bs w) (w0 : 0 ≤ wd) (w1 : wd ≤ 1073741824)
  (t0 : x.f0.f0.size ≤ 4000000000) (t1 : x.f0.f1.size ≤ 4000000000) (t2 : x.f0.f2.size ≤ 4000000000) (t3 : x.f3.size ≤ 4000000000) (t4 : x.f4.size ≤ 4000000000) (t5 : x.f5.size ≤ 4000000000)
  (eL : strings_HasSuffix.f x.f3 ⟨#[10]⟩ = some qL) (eB : strings_HasSuffix.f x.f4 ⟨#[10]⟩ = some qB) (eR : strings_HasSuffix.f x.f5 ⟨#[10]⟩ = some qR)
  (hlen : bs.length + 40000000000 ≤ 140737488355328) (hBw : B ≤ w.heap.size) :
  Calls Try.prog 88 #[.pointer (some ⟨b, 0, none⟩), .agg #[.string x.f0.f0, .string x.f0.f1, .string x.f0.f2, .bool x.f1, .string x.f2, .string x.f3, .string x.f4, .string x.f5, .bool x.f6]] w fun e w' =>
   e = .returned (.tuple #[]) ∧ Pr B b wd false (bs ++ hunkL wd lk x qL qB qR) w' ∧ Below B w w' ∧ KeepT b w w' := by
 obtain ⟨⟨l0, l1, l2⟩, hk, tx, s3, s4, s5, hb⟩ := x
 dsimp only at *
 have M := fun (k : Int) (lb : ByteArray) (lk : Bool) (bs : List UInt8) (W : World) (h0 : 0 ≤ k) (h1 : k < 128) (hl : lb.size ≤ 4000000000) (hlen : bs.length + 6000000000 ≤ 140737488355328) (hB : B ≤ W.heap.size) (h : Pr B b wd lk bs W) =>
  pr_marker k lb h h0 h1 w0 w1 hl (by have := lineB_size k lk lb wd w1; omega) hB
 have SD := fun (s : ByteArray) (q : Bool) (lk : Bool) (bs : List UInt8) (W : World) (hq : strings_HasSuffix.f s ⟨#[10]⟩ = some q) (hs : s.size ≤ 4000000000) (hlen : bs.length + 6000000000 ≤ 140737488355328) (hB : B ≤ W.heap.size) (h : Pr B b wd lk bs W) =>
  pr_side s q h hq (by omega) hB
 have HP := Aside0.mk (h.below (below_alloc (Below.refl w.heap.size w) (.cells #[.string l0, .string l1, .string l2, .bool hk, .string tx, .string s3, .string s4, .string s5, .bool hb] 106)))
 have HB := Aside0.mk (Below.mono (below_alloc (Below.refl w.heap.size w) (.cells #[.string l0, .string l1, .string l2, .bool hk, .string tx, .string s3, .string s4, .string s5, .bool hb] 106)) hBw)
 have HK := Aside0.mk (KeepT.below (b := b) (below_alloc (Below.refl w.heap.size w) (.cells #[.string l0, .string l1, .string l2, .bool hk, .string tx, .string s3, .string s4, .string s5, .bool hb] 106)))
 have hblk := World.alloc_heap_new w (.cells #[.string l0, .string l1, .string l2, .bool hk, .string tx, .string s3, .string s4, .string s5, .bool hb] 106)
 have hne : w.heap.size ≠ b := by have := h.lt; omega
 have hsz := HB.out.size
 have HN : Aside0 (bs.length + 40000000000 ≤ 140737488355328) := ⟨hlen⟩
 have tE : (⟨#[]⟩ : ByteArray).size ≤ 4000000000 := by decide
 generalize hn0 : w.heap.size = n0 at hblk hne
 generalize hW1 : w.alloc (.cells #[.string l0, .string l1, .string l2, .bool hk, .string tx, .string s3, .string s4, .string s5, .bool hb] 106) = W1 at *
 cases hb with
 | false =>
  have k0 := (blk_cell hblk 0).trans (rfl : _ = some (Value.string l0))
  have k1 := (blk_cell hblk 1).trans (rfl : _ = some (Value.string l1))
  have k2 := (blk_cell hblk 2).trans (rfl : _ = some (Value.string l2))
  have k5 := (blk_cell hblk 5).trans (rfl : _ = some (Value.string s3))
  have k6 := (blk_cell hblk 6).trans (rfl : _ = some (Value.string s4))
  have k7 := (blk_cell hblk 7).trans (rfl : _ = some (Value.string s5))
  have k8 := (blk_cell hblk 8).trans (rfl : _ = some (Value.bool false))
  go_enter Try.func88, Try.ntmps88
  go_wp2_with (first
   | (go_at_call_of 124 (Value.int .u8 60); refine (M 60 l0 _ _ _ (by omega) (by omega) t0 (by have := HN.out; omega) (Nat.le_trans hBw hsz) HP.out).mono ?_; rintro e W ⟨rfl, hp_, hb_, hk_⟩; replace hblk := hk_.cell hblk (by decide) hne; (try clear k0); (try clear k1); (try clear k2); (try clear k5); (try clear k6); (try clear k7); (try clear k8); have k0 := (blk_cell hblk 0).trans (rfl : _ = some (Value.string l0)); have k1 := (blk_cell hblk 1).trans (rfl : _ = some (Value.string l1)); have k2 := (blk_cell hblk 2).trans (rfl : _ = some (Value.string l2)); have k5 := (blk_cell hblk 5).trans (rfl : _ = some (Value.string s3)); have k6 := (blk_cell hblk 6).trans (rfl : _ = some (Value.string s4)); have k7 := (blk_cell hblk 7).trans (rfl : _ = some (Value.string s5)); have k8 := (blk_cell hblk 8).trans (rfl : _ = some (Value.bool false)); replace HP := Aside0.mk hp_; replace hsz := Nat.le_trans hsz hb_.size; replace HB := Aside0.mk (Below.trans HB.out hb_); replace HK := Aside0.mk (KeepT.trans HK.out hk_); clear hp_ hb_ hk_; replace HN : Aside0 ((bs ++ (lineB 60 lk l0 wd).data.toList).length + 34926258173 ≤ 140737488355328) := ⟨by rw [List.length_append, size_dataL]; have := lineB_size 60 lk l0 wd w1; have := HN.out; omega⟩)
   | (go_at_call_of 125 (Value.string s3); refine (SD s3 qL _ _ _ eL t3 (by have := HN.out; omega) (Nat.le_trans hBw hsz) HP.out).mono ?_; rintro e W ⟨rfl, hp_, hb_, hk_⟩; replace hblk := hk_.cell hblk (by decide) hne; (try clear k0); (try clear k1); (try clear k2); (try clear k5); (try clear k6); (try clear k7); (try clear k8); have k0 := (blk_cell hblk 0).trans (rfl : _ = some (Value.string l0)); have k1 := (blk_cell hblk 1).trans (rfl : _ = some (Value.string l1)); have k2 := (blk_cell hblk 2).trans (rfl : _ = some (Value.string l2)); have k5 := (blk_cell hblk 5).trans (rfl : _ = some (Value.string s3)); have k6 := (blk_cell hblk 6).trans (rfl : _ = some (Value.string s4)); have k7 := (blk_cell hblk 7).trans (rfl : _ = some (Value.string s5)); have k8 := (blk_cell hblk 8).trans (rfl : _ = some (Value.bool false)); replace HP := Aside0.mk hp_; replace hsz := Nat.le_trans hsz hb_.size; replace HB := Aside0.mk (Below.trans HB.out hb_); replace HK := Aside0.mk (KeepT.trans HK.out hk_); clear hp_ hb_ hk_; replace HN : Aside0 (((bs ++ (lineB 60 lk l0 wd).data.toList) ++ sideL s3 qL).length + 30926258172 ≤ 140737488355328) := ⟨by rw [List.length_append]; have := sideL_length s3 qL; have := HN.out; omega⟩)
   | (go_at_call_of 124 (Value.int .u8 61); refine (M 61 ⟨#[]⟩ _ _ _ (by omega) (by omega) tE (by have := HN.out; omega) (Nat.le_trans hBw hsz) HP.out).mono ?_; rintro e W ⟨rfl, hp_, hb_, hk_⟩; replace hblk := hk_.cell hblk (by decide) hne; (try clear k0); (try clear k1); (try clear k2); (try clear k5); (try clear k6); (try clear k7); (try clear k8); have k0 := (blk_cell hblk 0).trans (rfl : _ = some (Value.string l0)); have k1 := (blk_cell hblk 1).trans (rfl : _ = some (Value.string l1)); have k2 := (blk_cell hblk 2).trans (rfl : _ = some (Value.string l2)); have k5 := (blk_cell hblk 5).trans (rfl : _ = some (Value.string s3)); have k6 := (blk_cell hblk 6).trans (rfl : _ = some (Value.string s4)); have k7 := (blk_cell hblk 7).trans (rfl : _ = some (Value.string s5)); have k8 := (blk_cell hblk 8).trans (rfl : _ = some (Value.bool false)); replace HP := Aside0.mk hp_; replace hsz := Nat.le_trans hsz hb_.size; replace HB := Aside0.mk (Below.trans HB.out hb_); replace HK := Aside0.mk (KeepT.trans HK.out hk_); clear hp_ hb_ hk_; replace HN : Aside0 ((((bs ++ (lineB 60 lk l0 wd).data.toList) ++ sideL s3 qL) ++ (lineB 61 (lacksB s3 qL) ⟨#[]⟩ wd).data.toList).length + 25852516345 ≤ 140737488355328) := ⟨by rw [List.length_append, size_dataL]; have := lineB_size 61 (lacksB s3 qL) ⟨#[]⟩ wd w1; have := HN.out; omega⟩)
   | (go_at_call_of 125 (Value.string s5); refine (SD s5 qR _ _ _ eR t5 (by have := HN.out; omega) (Nat.le_trans hBw hsz) HP.out).mono ?_; rintro e W ⟨rfl, hp_, hb_, hk_⟩; replace hblk := hk_.cell hblk (by decide) hne; (try clear k0); (try clear k1); (try clear k2); (try clear k5); (try clear k6); (try clear k7); (try clear k8); have k0 := (blk_cell hblk 0).trans (rfl : _ = some (Value.string l0)); have k1 := (blk_cell hblk 1).trans (rfl : _ = some (Value.string l1)); have k2 := (blk_cell hblk 2).trans (rfl : _ = some (Value.string l2)); have k5 := (blk_cell hblk 5).trans (rfl : _ = some (Value.string s3)); have k6 := (blk_cell hblk 6).trans (rfl : _ = some (Value.string s4)); have k7 := (blk_cell hblk 7).trans (rfl : _ = some (Value.string s5)); have k8 := (blk_cell hblk 8).trans (rfl : _ = some (Value.bool false)); replace HP := Aside0.mk hp_; replace hsz := Nat.le_trans hsz hb_.size; replace HB := Aside0.mk (Below.trans HB.out hb_); replace HK := Aside0.mk (KeepT.trans HK.out hk_); clear hp_ hb_ hk_; replace HN : Aside0 (((((bs ++ (lineB 60 lk l0 wd).data.toList) ++ sideL s3 qL) ++ (lineB 61 (lacksB s3 qL) ⟨#[]⟩ wd).data.toList) ++ sideL s5 qR).length + 21852516344 ≤ 140737488355328) := ⟨by rw [List.length_append]; have := sideL_length s5 qR; have := HN.out; omega⟩)
   | (go_at_call_of 124 (Value.int .u8 62); refine (M 62 l2 _ _ _ (by omega) (by omega) t2 (by have := HN.out; omega) (Nat.le_trans hBw hsz) HP.out).mono ?_; rintro e W ⟨rfl, hp_, hb_, hk_⟩; replace hblk := hk_.cell hblk (by decide) hne; (try clear k0); (try clear k1); (try clear k2); (try clear k5); (try clear k6); (try clear k7); (try clear k8); have k0 := (blk_cell hblk 0).trans (rfl : _ = some (Value.string l0)); have k1 := (blk_cell hblk 1).trans (rfl : _ = some (Value.string l1)); have k2 := (blk_cell hblk 2).trans (rfl : _ = some (Value.string l2)); have k5 := (blk_cell hblk 5).trans (rfl : _ = some (Value.string s3)); have k6 := (blk_cell hblk 6).trans (rfl : _ = some (Value.string s4)); have k7 := (blk_cell hblk 7).trans (rfl : _ = some (Value.string s5)); have k8 := (blk_cell hblk 8).trans (rfl : _ = some (Value.bool false)); replace HP := Aside0.mk hp_; replace hsz := Nat.le_trans hsz hb_.size; replace HB := Aside0.mk (Below.trans HB.out hb_); replace HK := Aside0.mk (KeepT.trans HK.out hk_); clear hp_ hb_ hk_; replace HN : Aside0 ((((((bs ++ (lineB 60 lk l0 wd).data.toList) ++ sideL s3 qL) ++ (lineB 61 (lacksB s3 qL) ⟨#[]⟩ wd).data.toList) ++ sideL s5 qR) ++ (lineB 62 (lacksB s5 qR) l2 wd).data.toList).length + 16778774517 ≤ 140737488355328) := ⟨by rw [List.length_append, size_dataL]; have := lineB_size 62 (lacksB s5 qR) l2 wd w1; have := HN.out; omega⟩))
  go_end0
  refine ⟨rfl, ?_, HB.out, HK.out⟩
  have hp := HP.out
  simp only [List.append_assoc] at hp
  simp only [hunkL, lineL, List.append_assoc, if_true, if_false, List.nil_append, Bool.false_eq_true]
  exact hp
 | true =>
  have k0 := (blk_cell hblk 0).trans (rfl : _ = some (Value.string l0))
  have k1 := (blk_cell hblk 1).trans (rfl : _ = some (Value.string l1))
  have k2 := (blk_cell hblk 2).trans (rfl : _ = some (Value.string l2))
  have k5 := (blk_cell hblk 5).trans (rfl : _ = some (Value.string s3))
  have k6 := (blk_cell hblk 6).trans (rfl : _ = some (Value.string s4))
  have k7 := (blk_cell hblk 7).trans (rfl : _ = some (Value.string s5))
  have k8 := (blk_cell hblk 8).trans (rfl : _ = some (Value.bool true))
  go_enter Try.func88, Try.ntmps88
  go_wp2_with (first
   | (go_at_call_of 124 (Value.int .u8 60); refine (M 60 l0 _ _ _ (by omega) (by omega) t0 (by have := HN.out; omega) (Nat.le_trans hBw hsz) HP.out).mono ?_; rintro e W ⟨rfl, hp_, hb_, hk_⟩; replace hblk := hk_.cell hblk (by decide) hne; (try clear k0); (try clear k1); (try clear k2); (try clear k5); (try clear k6); (try clear k7); (try clear k8); have k0 := (blk_cell hblk 0).trans (rfl : _ = some (Value.string l0)); have k1 := (blk_cell hblk 1).trans (rfl : _ = some (Value.string l1)); have k2 := (blk_cell hblk 2).trans (rfl : _ = some (Value.string l2)); have k5 := (blk_cell hblk 5).trans (rfl : _ = some (Value.string s3)); have k6 := (blk_cell hblk 6).trans (rfl : _ = some (Value.string s4)); have k7 := (blk_cell hblk 7).trans (rfl : _ = some (Value.string s5)); have k8 := (blk_cell hblk 8).trans (rfl : _ = some (Value.bool true)); replace HP := Aside0.mk hp_; replace hsz := Nat.le_trans hsz hb_.size; replace HB := Aside0.mk (Below.trans HB.out hb_); replace HK := Aside0.mk (KeepT.trans HK.out hk_); clear hp_ hb_ hk_; replace HN : Aside0 ((bs ++ (lineB 60 lk l0 wd).data.toList).length + 34926258173 ≤ 140737488355328) := ⟨by rw [List.length_append, size_dataL]; have := lineB_size 60 lk l0 wd w1; have := HN.out; omega⟩)
   | (go_at_call_of 125 (Value.string s3); refine (SD s3 qL _ _ _ eL t3 (by have := HN.out; omega) (Nat.le_trans hBw hsz) HP.out).mono ?_; rintro e W ⟨rfl, hp_, hb_, hk_⟩; replace hblk := hk_.cell hblk (by decide) hne; (try clear k0); (try clear k1); (try clear k2); (try clear k5); (try clear k6); (try clear k7); (try clear k8); have k0 := (blk_cell hblk 0).trans (rfl : _ = some (Value.string l0)); have k1 := (blk_cell hblk 1).trans (rfl : _ = some (Value.string l1)); have k2 := (blk_cell hblk 2).trans (rfl : _ = some (Value.string l2)); have k5 := (blk_cell hblk 5).trans (rfl : _ = some (Value.string s3)); have k6 := (blk_cell hblk 6).trans (rfl : _ = some (Value.string s4)); have k7 := (blk_cell hblk 7).trans (rfl : _ = some (Value.string s5)); have k8 := (blk_cell hblk 8).trans (rfl : _ = some (Value.bool true)); replace HP := Aside0.mk hp_; replace hsz := Nat.le_trans hsz hb_.size; replace HB := Aside0.mk (Below.trans HB.out hb_); replace HK := Aside0.mk (KeepT.trans HK.out hk_); clear hp_ hb_ hk_; replace HN : Aside0 (((bs ++ (lineB 60 lk l0 wd).data.toList) ++ sideL s3 qL).length + 30926258172 ≤ 140737488355328) := ⟨by rw [List.length_append]; have := sideL_length s3 qL; have := HN.out; omega⟩)
   | (go_at_call_of 124 (Value.int .u8 124); refine (M 124 l1 _ _ _ (by omega) (by omega) t1 (by have := HN.out; omega) (Nat.le_trans hBw hsz) HP.out).mono ?_; rintro e W ⟨rfl, hp_, hb_, hk_⟩; replace hblk := hk_.cell hblk (by decide) hne; (try clear k0); (try clear k1); (try clear k2); (try clear k5); (try clear k6); (try clear k7); (try clear k8); have k0 := (blk_cell hblk 0).trans (rfl : _ = some (Value.string l0)); have k1 := (blk_cell hblk 1).trans (rfl : _ = some (Value.string l1)); have k2 := (blk_cell hblk 2).trans (rfl : _ = some (Value.string l2)); have k5 := (blk_cell hblk 5).trans (rfl : _ = some (Value.string s3)); have k6 := (blk_cell hblk 6).trans (rfl : _ = some (Value.string s4)); have k7 := (blk_cell hblk 7).trans (rfl : _ = some (Value.string s5)); have k8 := (blk_cell hblk 8).trans (rfl : _ = some (Value.bool true)); replace HP := Aside0.mk hp_; replace hsz := Nat.le_trans hsz hb_.size; replace HB := Aside0.mk (Below.trans HB.out hb_); replace HK := Aside0.mk (KeepT.trans HK.out hk_); clear hp_ hb_ hk_; replace HN : Aside0 ((((bs ++ (lineB 60 lk l0 wd).data.toList) ++ sideL s3 qL) ++ (lineB 124 (lacksB s3 qL) l1 wd).data.toList).length + 25852516345 ≤ 140737488355328) := ⟨by rw [List.length_append, size_dataL]; have := lineB_size 124 (lacksB s3 qL) l1 wd w1; have := HN.out; omega⟩)
   | (go_at_call_of 125 (Value.string s4); refine (SD s4 qB _ _ _ eB t4 (by have := HN.out; omega) (Nat.le_trans hBw hsz) HP.out).mono ?_; rintro e W ⟨rfl, hp_, hb_, hk_⟩; replace hblk := hk_.cell hblk (by decide) hne; (try clear k0); (try clear k1); (try clear k2); (try clear k5); (try clear k6); (try clear k7); (try clear k8); have k0 := (blk_cell hblk 0).trans (rfl : _ = some (Value.string l0)); have k1 := (blk_cell hblk 1).trans (rfl : _ = some (Value.string l1)); have k2 := (blk_cell hblk 2).trans (rfl : _ = some (Value.string l2)); have k5 := (blk_cell hblk 5).trans (rfl : _ = some (Value.string s3)); have k6 := (blk_cell hblk 6).trans (rfl : _ = some (Value.string s4)); have k7 := (blk_cell hblk 7).trans (rfl : _ = some (Value.string s5)); have k8 := (blk_cell hblk 8).trans (rfl : _ = some (Value.bool true)); replace HP := Aside0.mk hp_; replace hsz := Nat.le_trans hsz hb_.size; replace HB := Aside0.mk (Below.trans HB.out hb_); replace HK := Aside0.mk (KeepT.trans HK.out hk_); clear hp_ hb_ hk_; replace HN : Aside0 (((((bs ++ (lineB 60 lk l0 wd).data.toList) ++ sideL s3 qL) ++ (lineB 124 (lacksB s3 qL) l1 wd).data.toList) ++ sideL s4 qB).length + 21852516344 ≤ 140737488355328) := ⟨by rw [List.length_append]; have := sideL_length s4 qB; have := HN.out; omega⟩)
   | (go_at_call_of 124 (Value.int .u8 61); refine (M 61 ⟨#[]⟩ _ _ _ (by omega) (by omega) tE (by have := HN.out; omega) (Nat.le_trans hBw hsz) HP.out).mono ?_; rintro e W ⟨rfl, hp_, hb_, hk_⟩; replace hblk := hk_.cell hblk (by decide) hne; (try clear k0); (try clear k1); (try clear k2); (try clear k5); (try clear k6); (try clear k7); (try clear k8); have k0 := (blk_cell hblk 0).trans (rfl : _ = some (Value.string l0)); have k1 := (blk_cell hblk 1).trans (rfl : _ = some (Value.string l1)); have k2 := (blk_cell hblk 2).trans (rfl : _ = some (Value.string l2)); have k5 := (blk_cell hblk 5).trans (rfl : _ = some (Value.string s3)); have k6 := (blk_cell hblk 6).trans (rfl : _ = some (Value.string s4)); have k7 := (blk_cell hblk 7).trans (rfl : _ = some (Value.string s5)); have k8 := (blk_cell hblk 8).trans (rfl : _ = some (Value.bool true)); replace HP := Aside0.mk hp_; replace hsz := Nat.le_trans hsz hb_.size; replace HB := Aside0.mk (Below.trans HB.out hb_); replace HK := Aside0.mk (KeepT.trans HK.out hk_); clear hp_ hb_ hk_; replace HN : Aside0 ((((((bs ++ (lineB 60 lk l0 wd).data.toList) ++ sideL s3 qL) ++ (lineB 124 (lacksB s3 qL) l1 wd).data.toList) ++ sideL s4 qB) ++ (lineB 61 (lacksB s4 qB) ⟨#[]⟩ wd).data.toList).length + 16778774517 ≤ 140737488355328) := ⟨by rw [List.length_append, size_dataL]; have := lineB_size 61 (lacksB s4 qB) ⟨#[]⟩ wd w1; have := HN.out; omega⟩)
   | (go_at_call_of 125 (Value.string s5); refine (SD s5 qR _ _ _ eR t5 (by have := HN.out; omega) (Nat.le_trans hBw hsz) HP.out).mono ?_; rintro e W ⟨rfl, hp_, hb_, hk_⟩; replace hblk := hk_.cell hblk (by decide) hne; (try clear k0); (try clear k1); (try clear k2); (try clear k5); (try clear k6); (try clear k7); (try clear k8); have k0 := (blk_cell hblk 0).trans (rfl : _ = some (Value.string l0)); have k1 := (blk_cell hblk 1).trans (rfl : _ = some (Value.string l1)); have k2 := (blk_cell hblk 2).trans (rfl : _ = some (Value.string l2)); have k5 := (blk_cell hblk 5).trans (rfl : _ = some (Value.string s3)); have k6 := (blk_cell hblk 6).trans (rfl : _ = some (Value.string s4)); have k7 := (blk_cell hblk 7).trans (rfl : _ = some (Value.string s5)); have k8 := (blk_cell hblk 8).trans (rfl : _ = some (Value.bool true)); replace HP := Aside0.mk hp_; replace hsz := Nat.le_trans hsz hb_.size; replace HB := Aside0.mk (Below.trans HB.out hb_); replace HK := Aside0.mk (KeepT.trans HK.out hk_); clear hp_ hb_ hk_; replace HN : Aside0 (((((((bs ++ (lineB 60 lk l0 wd).data.toList) ++ sideL s3 qL) ++ (lineB 124 (lacksB s3 qL) l1 wd).data.toList) ++ sideL s4 qB) ++ (lineB 61 (lacksB s4 qB) ⟨#[]⟩ wd).data.toList) ++ sideL s5 qR).length + 12778774516 ≤ 140737488355328) := ⟨by rw [List.length_append]; have := sideL_length s5 qR; have := HN.out; omega⟩)
   | (go_at_call_of 124 (Value.int .u8 62); refine (M 62 l2 _ _ _ (by omega) (by omega) t2 (by have := HN.out; omega) (Nat.le_trans hBw hsz) HP.out).mono ?_; rintro e W ⟨rfl, hp_, hb_, hk_⟩; replace hblk := hk_.cell hblk (by decide) hne; (try clear k0); (try clear k1); (try clear k2); (try clear k5); (try clear k6); (try clear k7); (try clear k8); have k0 := (blk_cell hblk 0).trans (rfl : _ = some (Value.string l0)); have k1 := (blk_cell hblk 1).trans (rfl : _ = some (Value.string l1)); have k2 := (blk_cell hblk 2).trans (rfl : _ = some (Value.string l2)); have k5 := (blk_cell hblk 5).trans (rfl : _ = some (Value.string s3)); have k6 := (blk_cell hblk 6).trans (rfl : _ = some (Value.string s4)); have k7 := (blk_cell hblk 7).trans (rfl : _ = some (Value.string s5)); have k8 := (blk_cell hblk 8).trans (rfl : _ = some (Value.bool true)); replace HP := Aside0.mk hp_; replace hsz := Nat.le_trans hsz hb_.size; replace HB := Aside0.mk (Below.trans HB.out hb_); replace HK := Aside0.mk (KeepT.trans HK.out hk_); clear hp_ hb_ hk_; replace HN : Aside0 ((((((((bs ++ (lineB 60 lk l0 wd).data.toList) ++ sideL s3 qL) ++ (lineB 124 (lacksB s3 qL) l1 wd).data.toList) ++ sideL s4 qB) ++ (lineB 61 (lacksB s4 qB) ⟨#[]⟩ wd).data.toList) ++ sideL s5 qR) ++ (lineB 62 (lacksB s5 qR) l2 wd).data.toList).length + 7705032689 ≤ 140737488355328) := ⟨by rw [List.length_append, size_dataL]; have := lineB_size 62 (lacksB s5 qR) l2 wd w1; have := HN.out; omega⟩))
  go_end0
  refine ⟨rfl, ?_, HB.out, HK.out⟩
  have hp := HP.out
  simp only [List.append_assoc] at hp
  simp only [hunkL, lineL, List.append_assoc, if_true, if_false, List.nil_append, Bool.false_eq_true]
  exact hp
end Go.Proofs.Ytfiamddinkokbaa.F
end

section
namespace Go.Proofs.Ytfiamddinkokbaa.F
open Go.RowKit Go.Proofs.YtfiamddinkokbaaW.PrintWords Go.Proofs.YtfiamddinkokbaaW.PrintLast Go.Proofs.YtfiamddinkokbaaW.PrintMore
attribute [local go_sem] max2_int min2_int max_two min_two max_three min_three max_four min_four
theorem eqA84 (d : Nat) (w : World) (x0 y0 : ByteArray) (x1 y1 : ByteArray) (x2 y2 : ByteArray) :
  (Op.equalIn (d + 2) 84 (.agg #[.string x0, .string x1, .string x2]) (.agg #[.string y0, .string y1, .string y2])).run Try.prog w = .ok (x0.toList == y0.toList && (x1.toList == y1.toList && (x2.toList == y2.toList))) w := by
 refine eqA_of Try.underlying84 (by kernel_rfl) ?_
 refine eqf_cons (by rfl) (by go_simp; rfl) (by go_simp; rfl) (by go_simp) ?_
 refine eqf_cons (by rfl) (by go_simp; rfl) (by go_simp; rfl) (by go_simp) ?_
 exact eqf_last (by rfl) (by go_simp; rfl) (by go_simp; rfl) (by go_simp)
theorem eqA106 (d : Nat) (w : World) (x0 y0 : ByteArray) (x1 y1 : ByteArray) (x2 y2 : ByteArray) (x3 y3 : Bool) (x4 y4 : ByteArray) (x5 y5 : ByteArray) (x6 y6 : ByteArray) (x7 y7 : ByteArray) (x8 y8 : Bool) :
  (Op.equalIn (d + 3) 106 (.agg #[.string x0, .string x1, .string x2, .bool x3, .string x4, .string x5, .string x6, .string x7, .bool x8]) (.agg #[.string y0, .string y1, .string y2, .bool y3, .string y4, .string y5, .string y6, .string y7, .bool y8])).run Try.prog w = .ok ((x0.toList == y0.toList && (x1.toList == y1.toList && (x2.toList == y2.toList))) && (x3 == y3 && (x4.toList == y4.toList && (x5.toList == y5.toList && (x6.toList == y6.toList && (x7.toList == y7.toList && (x8 == y8))))))) w := by
 refine eqA_of Try.underlying106 (by kernel_rfl) ?_
 refine eqf_cons (by rfl) (by go_simp) (by go_simp) (eqA84 (d + 0) w _ _ _ _ _ _) ?_
 refine eqf_cons (by rfl) (by go_simp; rfl) (by go_simp; rfl) (by go_simp) ?_
 refine eqf_cons (by rfl) (by go_simp; rfl) (by go_simp; rfl) (by go_simp) ?_
 refine eqf_cons (by rfl) (by go_simp; rfl) (by go_simp; rfl) (by go_simp) ?_
 refine eqf_cons (by rfl) (by go_simp; rfl) (by go_simp; rfl) (by go_simp) ?_
 refine eqf_cons (by rfl) (by go_simp; rfl) (by go_simp; rfl) (by go_simp) ?_
 exact eqf_last (by rfl) (by go_simp; rfl) (by go_simp; rfl) (by go_simp)
end Go.Proofs.Ytfiamddinkokbaa.F
end

section
namespace Go.Proofs.Ytfiamddinkokbaa.F
open Go.RowKit Go.Proofs.YtfiamddinkokbaaW.PrintWords Go.Proofs.YtfiamddinkokbaaW.PrintLast Go.Proofs.YtfiamddinkokbaaW.PrintMore
attribute [local go_sem] max2_int min2_int max_two min_two max_three min_three max_four min_four
attribute [local go_sem high] eqA106
def doc_Part_isText.f (a0_0 : ByteArray) (a0_1 : ByteArray) (a0_2 : ByteArray) (a0_3 : Bool) (a0_4 : ByteArray) (a0_5 : ByteArray) (a0_6 : ByteArray) (a0_7 : ByteArray) (a0_8 : Bool) : Option (Bool) := some ((a0_0.toList.isEmpty && (a0_1.toList.isEmpty && (a0_2.toList.isEmpty))) && (!a0_3 && (a0_5.toList.isEmpty && (a0_6.toList.isEmpty && (a0_7.toList.isEmpty && (!a0_8))))))
set_option maxHeartbeats 8000000 in
set_option maxRecDepth 100000 in
theorem doc_Part_isText.calls (a0_0 : ByteArray) (a0_1 : ByteArray) (a0_2 : ByteArray) (a0_3 : Bool) (a0_4 : ByteArray) (a0_5 : ByteArray) (a0_6 : ByteArray) (a0_7 : ByteArray) (a0_8 : Bool) (r : Bool) (w : World) (h : doc_Part_isText.f a0_0 a0_1 a0_2 a0_3 a0_4 a0_5 a0_6 a0_7 a0_8 = some r) :
  Calls Try.prog 75 #[.agg #[.string a0_0, .string a0_1, .string a0_2, .bool a0_3, .string a0_4, .string a0_5, .string a0_6, .string a0_7, .bool a0_8]] w fun e w' => e = .returned (.bool r) ∧ Below w.heap.size w w' := by
 have hu106 := Try.underlying106
 have HB := Aside0.mk (Below.refl w.heap.size w)
 have H : (some ((a0_0.toList.isEmpty && (a0_1.toList.isEmpty && (a0_2.toList.isEmpty))) && (!a0_3 && (a0_5.toList.isEmpty && (a0_6.toList.isEmpty && (a0_7.toList.isEmpty && (!a0_8))))))) = some r := h
 clear h
 obtain rfl := Option.some.inj H
 go_enter Try.func75, Try.ntmps75
 go_wp2_with (first | ((with_reducible refine gate_dst (N := 1) rfl ?_); refine box_event ?hg (N := 1) ?hd (cs := #[.string a0_0, .string a0_1, .string a0_2, .bool a0_3, .string a0_4, .string a0_5, .string a0_6, .string a0_7, .bool a0_8]) (t := 106) ?hr ?_; (case hd => rfl); (case hg => rfl); (case hr => first | (go_simp; done) | (go_simp; rfl)); intro gb113 hg w2 hbox hb; have n0_ := Aside0.mk (below_step (by repeat (first | (with_reducible first | exact HB.out | apply below_alloc | apply pw_below_drewN | apply below_drew1) | exact HB.out)) hb); have n1_ := Aside0.mk (hbox); have n2_ := Aside0.mk ((by rw [hg]; exact (below_size (by repeat (first | (with_reducible first | exact HB.out | apply below_alloc | apply pw_below_drewN | apply below_drew1) | exact HB.out))) : w.heap.size ≤ gb113)); have n3_ := Aside0.mk ((by rw [hg]; exact (below_size (by repeat (first | (with_reducible first | exact HB.out | apply below_alloc | apply pw_below_drewN | apply below_drew1) | exact HB.out))) : w.heap.size ≤ gb113)); clear HB; have HB := n0_; have BK113 := n1_; have GW113 := n2_; have GE113 := n3_; clear n0_ n1_ n2_ n3_; clear hb hbox hg; have hcz3_0 : w2.cell? ⟨gb113, 0, none⟩ = some (.string a0_0) := (blk_cell BK113.out 0).trans rfl; have hcz3_1 : w2.cell? ⟨gb113, 1, none⟩ = some (.string a0_1) := (blk_cell BK113.out 1).trans rfl; have hcz3_2 : w2.cell? ⟨gb113, 2, none⟩ = some (.string a0_2) := (blk_cell BK113.out 2).trans rfl; have hcz3_3 : w2.cell? ⟨gb113, 3, none⟩ = some (.bool a0_3) := (blk_cell BK113.out 3).trans rfl; have hcz3_4 : w2.cell? ⟨gb113, 4, none⟩ = some (.string a0_4) := (blk_cell BK113.out 4).trans rfl; have hcz3_5 : w2.cell? ⟨gb113, 5, none⟩ = some (.string a0_5) := (blk_cell BK113.out 5).trans rfl; have hcz3_6 : w2.cell? ⟨gb113, 6, none⟩ = some (.string a0_6) := (blk_cell BK113.out 6).trans rfl; have hcz3_7 : w2.cell? ⟨gb113, 7, none⟩ = some (.string a0_7) := (blk_cell BK113.out 7).trans rfl; have hcz3_8 : w2.cell? ⟨gb113, 8, none⟩ = some (.bool a0_8) := (blk_cell BK113.out 8).trans rfl; have hfz3_0 := blk_frozen BK113.out 0; have hfz3_1 := blk_frozen BK113.out 1; have hfz3_2 := blk_frozen BK113.out 2; have hfz3_3 := blk_frozen BK113.out 3; have hfz3_4 := blk_frozen BK113.out 4; have hfz3_5 := blk_frozen BK113.out 5; have hfz3_6 := blk_frozen BK113.out 6; have hfz3_7 := blk_frozen BK113.out 7; have hfz3_8 := blk_frozen BK113.out 8))
 go_ret
 exact ⟨by first | rfl | (simp [errW_none, errW_some] <;> rfl) | (simp [*, errW_none, errW_some] <;> rfl), by repeat (first | (with_reducible first | exact HB.out | apply below_alloc | apply pw_below_drewN | apply below_drew1 | refine below_set ?_ GE113.out) | exact HB.out)⟩
end Go.Proofs.Ytfiamddinkokbaa.F
end
