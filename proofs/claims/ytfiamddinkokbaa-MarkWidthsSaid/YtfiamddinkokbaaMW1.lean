/- Texts joined into one file (wip/tools/pack.py): Range, Lines, Shelf, Split, Run, Ext, Number, F0, Fn32, Fn44, Fn41, Fn43, Fn40, Fn29, Fn31, Fn36, Fn83, Fn37, Fn35, Fn81, Fn33, Fn82, Fn34, Fn84, May, LineA, LineB, Fn142, Fn115, Fn86, Fn95, Fn96, Fn154, Fn130, Fn98, Fn131, Fn99, Fn52, Fn49, Fn90, Fn128, Fn94, Fn150, Fn127, Fn97, Fn54, Fn46, Builder, Print, Hunk, FeqA84, Fn75 -/
import Derived.RangeFuncBox
import Derived.RangeFuncLeaves
import Derived.Shelf.Abstract
import Derived.WalkKit
import Derived.OwnWalkIn
import Derived.Lib.IndexLaws
import Derived.Shelf.Strings.Builder1
import Derived.Shelf.Strings.Builder2
import Derived.Shelf.Strings.OnBuilder
import Derived.Shelf.Small.Strs
import Derived.Shelf.Small.Wraps
import Derived.Shelf.Strings.BuilderF
import Derived.Shelf.Strings.BuilderK
import Derived.Shelf.Strings.Builder2Cap
import Derived.Shelf.Strings.Search1
import Derived.Shelf.Strings.Search2
import Derived.Shelf.Strings.Search3
import Derived.Shelf.LaysM
import Derived.Shelf.Strings.Shaped
import Derived.Shelf.Strings.Prefix
import Derived.Shelf.Bits.Mul64
import Derived.Shelf.Strings.Repeat
import Derived.Shelf.Strings.BuilderCap
import Derived.Shelf.Slices.Equal
import Derived.Ground.Names2Prog
import Derived.Shelf.Slices.Clone
import Derived.Shelf.Slices.Empties2
import Derived.Test.YtfiamddinkokbaaProg
import Derived.Test.YtfiamddinkokbaaWords1
import Derived.TacticsInMore
import Derived.LoopNIn
import Derived.LoopIn
import Derived.Maps.AppendAt
import Derived.StillTailTactics
import Derived.Lib.Hide
import Derived.Outline
import Derived.Lib.OthersKept
import Derived.Maps.Own
import Derived.Maps.OwnOps
import Derived.Maps.OwnSet
import Derived.Below
import Derived.Deep.Draws
import Derived.Deep.AppendLies
import Derived.OwnWalk
import Derived.Laws.BytesArg
import Derived.Laws.MakeOwn
import Derived.Laws.OwnMore
import Derived.Deep.OwnRows
import Derived.Tactics
import Derived.Lib.ConvBytes
import Derived.Laws.Slices
import Derived.KernelRfl
import Derived.RowKit3
import Derived.Deep.LoopGhost
import Derived.Deep.QuietTactic
import Derived.BigQuiet
import Derived.WideLaws
import Derived.Deep.DeepCutAuto
import Derived.Deep.CutBlock
import Derived.Deep.RegionHeld3
import Derived.Laws.Rows
import Derived.Lib.AppendStr
import Derived.ArgAppend
import Derived.Laws.IdiomCopy
import Derived.OrdersHeld
import Derived.Laws.BitsLemmas
import Derived.RowKit
import Derived.Shelf.RegionOpenPlain
import Derived.Lib.Strings
import Derived.Lib.Slices
import Derived.Lib.Walk
import Derived.Lib.Builder
import Derived.Lib.UnsafeStr
import Derived.Lib.MakeNoZero
import Derived.Laws.Externs
section
set_option linter.unusedVariables false
set_option linter.unusedSimpArgs false
namespace Go.Proofs.Ytfiamddinkokbaa
open Go.RowKit
def SeqCell {α : Type} (F : Fence) (n : Nat) (P : Program) (g : Nat) (lb : Array Value) (encs : α → Array Value) (B : Nat) (o : Obj) (S : List α → Prop) (N : Nat) : Prop :=
  ∀ (l : Nat) (J : List α → World → Prop) (W : World), W.heap[B]? = some o →
    (∀ s W v, J s W → J s (W.setCell ⟨B, 0, none⟩ v)) → (∀ s W, J s W → J s W.drew) →
    (∀ pre x W1, J pre W1 → pre.length < N → YieldAt F (n - 1) P l (encs x) W1 fun e W' => e = .returned (.bool true) ∧ J (pre ++ [x]) W' ∧ W'.heap[B]? = W1.heap[B]?) →
    J [] W →
    CallsIn F n P g (#[.func (.yield l) #[] #[]] ++ lb) W fun e W' => (∃ v, e = .returned v) ∧ ∃ xs, S xs ∧ J xs W'
variable {F : Fence} {n : Nat} {P : Program}
theorem wpIn_rangeFunc_cell {α : Type} {g : Operand} {ps : Array Tmp} {assign body : Code} {Q : Exit → Act → World → Prop} {a : Act} {w : World}
    (hro : F.round = none) (h1 : 1 ≤ n) {gf : Nat} {lb : Array Value} (hg : a.eval g = .func (.func gf) #[] lb) (hFg : F.fn gf) (eg : ∀ args w, (callFunc gf args).run P w = .ok (.enter gf args) w)
    {encs : α → Array Value} {B : Nat} {o : Obj} {S : List α → Prop} {N : Nat} (hseq : SeqCell F (n - 1) P gf lb encs B o S N)
    (hBo : w.heap[B]? = some o) (hps : ∀ x, (encs x).size = ps.size)
    (I : List α → World → Prop) (hI : OwnFrom w.heap.size I) (hIB : ∀ s W v, I s W → I s (W.setCell ⟨B, 0, none⟩ v)) (hId : ∀ s W, I s W → I s W.drew) (h0 : I [] w) (a₁ : α → Act)
    (hassign : ∀ (l : Nat) (x : α) (W : World) (K : Act → World → Prop), K (a₁ x) W →
      assign.wpIn (F.inRound l) (n - 1 - 1) P (Exit.then K (fun _ _ _ => False)) { tmps := (ps.zip (encs x)).foldl (fun t (p, v) => t.setIfInBounds p v) a.tmps, defers := [] } W)
    (hbody : ∀ (l : Nat) (pre : List α) (x : α) (W : World), I pre W → pre.length < N → body.wpIn (F.inRound l) (n - 1 - 1) P
      (fun e _ W' => e = .normal ∧ KeepsFrom w.heap.size W W' ∧ W'.heap[B]? = W.heap[B]? ∧ I (pre ++ [x]) W') (a₁ x) W)
    (hdone : ∀ (D : Nat) (xs : List α) (W : World), w.heap.size ≤ D → S xs → I xs W → W.heap[D]? = some (.deferred (some [])) → Q .normal { a with defers := { target := .collected D, args := #[] } :: a.defers } W) :
    (Code.rangeFunc g ps assign body).wpIn F n P Q a w := by
  have hBlt : B < w.heap.size := (Array.getElem?_eq_some_iff.1 hBo).1
  refine wpIn_rangeFunc ?_
  intro fn hfn
  rw [hro]
  obtain ⟨rec, hrec⟩ : ∃ rec : LoopState → Option Code → Loop, rec = fun st pe => { state := st, pending := pe, fn, tmps := a.tmps, params := ps, assign, body, defers := w.heap.size } := ⟨_, rfl⟩
  obtain ⟨W1, hW1⟩ : ∃ W1, (w.alloc (.deferred (some []))).alloc (.loop (rec .ready none)) = W1 := ⟨_, rfl⟩
  have hL1 : W1.heap[w.heap.size + 1]? = some (.loop (rec .ready none)) := by
    rw [← hW1]; have := World.alloc_heap_new (w.alloc (.deferred (some []))) (.loop (rec .ready none)); rwa [World.size_alloc] at this
  have hK1 : W1.heap[w.heap.size]? = some (.deferred (some [])) := by
    rw [← hW1]; exact (Below.heap_alloc _ _ _ (by simp)).trans (World.alloc_heap_new w _)
  have hB1 : W1.heap[B]? = some o := by
    rw [← hW1, Below.heap_alloc _ _ _ (by simp; omega), Below.heap_alloc _ _ _ (by omega)]; exact hBo
  have hI1 : I [] W1 := by rw [← hW1]; exact hI.alloc _ (hI.alloc _ h0)
  refine ⟨w.heap.size + 1, [{ target := .collected w.heap.size, args := #[] }], W1, { target := .fn (.func gf) lb, args := #[.func (.yield (w.heap.size + 1)) #[] #[]] }, W1, gf,
    #[.func (.yield (w.heap.size + 1)) #[] #[]] ++ lb, W1, ?_, ?_, ?_, ?_, fun _ => h1, ?_⟩
  · rw [← hW1, hrec]; exact run_enterLoop_outer _ _ _ _ _
  · simp only [resolve, hg]
    simp [go_sem]
  · intro f' hf'; simp [Target.leads] at hf'; subst hf'; exact hFg
  · simp [invoke, go_sem, eg]
  · refine (hseq (w.heap.size + 1)
      (fun pre W => I pre W ∧ W.heap[w.heap.size + 1]? = some (.loop (rec .ready none)) ∧ W.heap[w.heap.size]? = some (.deferred (some [])))
      W1 hB1
      (fun s A v hs => ⟨hIB s A v hs.1, (Below.heap_setCell _ _ _ _ (by simp; omega)).trans hs.2.1, (Below.heap_setCell _ _ _ _ (by simp; omega)).trans hs.2.2⟩)
      (fun s A hs => ⟨hId s A hs.1, hs.2.1, hs.2.2⟩)
      ?_ ⟨hI1, hL1, hK1⟩).mono ?_
    · rintro pre x W ⟨hi, hl, hk⟩ hlen
      have hlt : w.heap.size + 1 < W.heap.size := (Array.getElem?_eq_some_iff.1 hl).1
      have hy := run_yield (P := P) (args := encs x) hl (by rw [hrec]; exact hps x)
      rw [hrec] at hy
      refine ⟨fn, _, assign, body, hy, roundIn_of_wpIn hfn (hassign _ x W _ ⟨_, run_beginRound hl (by rw [hrec]), ?_⟩)⟩
      have hl2 : (W.putObj (w.heap.size + 1) (.loop { rec .ready none with state := .busy })).heap[w.heap.size + 1]? = some (.loop { rec .ready none with state := .busy }) := World.putObj_heap_same hlt
      have hk2 : (W.putObj (w.heap.size + 1) (.loop { rec .ready none with state := .busy })).heap[w.heap.size]? = some (.deferred (some [])) := (World.putObj_heap_other (by omega)).trans hk
      have hb2 : (W.putObj (w.heap.size + 1) (.loop { rec .ready none with state := .busy })).heap[B]? = W.heap[B]? := World.putObj_heap_other (by omega)
      refine wpIn_mono (hbody _ pre x _ (hI.putObj _ hi (by omega) hl rfl) hlen) ?_
      rintro e a3 W3 ⟨rfl, hk3, hb3, hi3⟩
      have hl3 := hk3.same _ _ (by omega) hl2 rfl
      have hre := run_endRound (P := P) none hl3
      rw [hrec] at hre ⊢
      rw [hrec] at hl3 hl2 hk2 hk3
      refine ⟨_, _, hre, rfl, ⟨hI.putObj _ hi3 (by omega) hl3 rfl, World.putObj_heap_same (Array.getElem?_eq_some_iff.1 hl3).1, (World.putObj_heap_other (by omega)).trans (hk3.same _ _ (Nat.le_refl _) hk2 rfl)⟩, ?_⟩
      exact (World.putObj_heap_other (by omega)).trans (hb3.trans hb2)
    · rintro e W2 ⟨⟨v, rfl⟩, xs, hS, hi, hl, hk⟩
      exact ⟨none, _, by have := run_endLoop (P := P) hl (by rw [hrec]; simp); rw [hrec] at this; exact this, hdone _ xs _ (Nat.le_refl _) hS (hI.putObj _ hi (by omega) hl rfl) ((World.putObj_heap_other (by omega)).trans hk)⟩
end Go.Proofs.Ytfiamddinkokbaa
end

section
set_option linter.unusedVariables false
set_option linter.unusedSimpArgs false
namespace Go.Proofs.Ytfiamddinkokbaa
open Go
def splitL : List UInt8 → List (List UInt8)
  | [] => []
  | c :: t => if c = 10 then [10] :: splitL t else match splitL t with
    | [] => [[c]]
    | l :: r => (c :: l) :: r
def takeLine : List UInt8 → List UInt8
  | [] => []
  | c :: t => if c = 10 then [10] else c :: takeLine t
def dropLine : List UInt8 → List UInt8
  | [] => []
  | c :: t => if c = 10 then t else dropLine t
theorem splitL_next : ∀ l : List UInt8, l ≠ [] → splitL l = takeLine l :: splitL (dropLine l)
  | [], h => absurd rfl h
  | c :: t, _ => by
    by_cases hc : c = 10
    · simp [splitL, takeLine, dropLine, hc]
    · simp only [splitL, takeLine, dropLine, hc, if_false]
      by_cases ht : t = []
      · subst ht; simp [splitL, takeLine, dropLine]
      · rw [splitL_next t ht]
theorem line_of_some : ∀ (l : List UInt8) (o : Nat), Lib.indexByte l 10 = o → takeLine l = l.take (o + 1) ∧ dropLine l = l.drop (o + 1)
  | [], o, h => by
    have := (Lib.indexByte_some h).1
    simp at this
  | c :: t, o, h => by
    obtain ⟨h1, h2⟩ := Lib.indexByte_some h
    by_cases hc : c = 10
    · have : o = 0 := by
        rcases Nat.eq_zero_or_pos o with h0 | h0
        · exact h0
        · exact absurd (by simp [hc]) (h2 0 h0)
      subst this
      simp [takeLine, dropLine, hc]
    · cases o with
      | zero => simp at h1; exact absurd h1 hc
      | succ o =>
        have ih := line_of_some t o (by
          simp only [Lib.indexByte, beq_iff_eq, if_neg hc] at h
          split at h <;> omega)
        simp [takeLine, dropLine, hc, ih.1, ih.2]
theorem line_of_none : ∀ (l : List UInt8), Lib.indexByte l 10 = -1 → takeLine l = l ∧ dropLine l = []
  | [], _ => ⟨rfl, rfl⟩
  | c :: t, h => by
    have hn := Lib.indexByte_none h
    have hc : c ≠ 10 := fun e => hn 0 (by simp [e])
    have ih := line_of_none t (by
      have hg := Lib.indexByte_ge t 10
      rcases Int.lt_or_le (Lib.indexByte t 10) 0 with h0 | h0
      · omega
      · obtain ⟨o, ho⟩ := Int.eq_ofNat_of_zero_le h0
        exact absurd (Lib.indexByte_some ho).1 (by have := hn (o + 1); simpa using this))
    simp [takeLine, dropLine, hc, ih.1, ih.2]
def toB (l : List UInt8) : ByteArray := ⟨l.toArray⟩
def splitB (s : ByteArray) : List ByteArray := (splitL s.data.toList).map toB
theorem toB_data (s : ByteArray) : toB s.data.toList = s := by cases s; simp [toB]
@[simp] theorem toB_size (l : List UInt8) : (toB l).size = l.length := by simp [toB, ByteArray.size]
@[simp] theorem data_toB (l : List UInt8) : (toB l).data.toList = l := by simp [toB]
theorem splitL_length_le : ∀ l : List UInt8, (splitL l).length ≤ l.length
  | [] => by simp [splitL]
  | c :: t => by
    have ih := splitL_length_le t
    simp only [splitL]
    split
    · simpa using ih
    · split
      · simp
      · rename_i h; rw [h] at ih; simp at ih ⊢; omega
end Go.Proofs.Ytfiamddinkokbaa
end

section
set_option linter.unusedVariables false
set_option linter.unusedSimpArgs false
namespace Go.Proofs
open Go.Shelf
def Try.lays137_ren : Go.Shelf.Ren := ⟨fun | 137 => 120 | 217 => 144 | 266 => 160 | n => n, fun | 9 => 9 | 5 => 5 | 3 => 3 | n => n, fun | n => n⟩
theorem Try.lays137 : Go.Proofs.Lays.n137 Try.prog Try.lays137_ren := {
  mixed := by kernel_rfl
  f137 := Try.func120.trans (congrArg some (by kernel_rfl))
  f217 := Try.func144.trans (congrArg some (by kernel_rfl))
  f266 := Try.func160.trans (congrArg some (by kernel_rfl))
  t3 := Try.underlying3
  a3 := Try.isAgg3
  z3 := Try.sizeOf3
  v3 := Try.zeroValue3
  t5 := Try.underlying5
  a5 := Try.isAgg5
  z5 := Try.sizeOf5
  v5 := Try.zeroValue5
  t9 := Try.underlying9
  a9 := Try.isAgg9
  z9 := Try.sizeOf9
  v9 := Try.zeroValue9 }
open Go.RowKit in
theorem Try.strings_IndexByte (s : ByteArray) (c : Int) (w : World) :
    Calls Try.prog 120 #[.string s, .int .u8 c] w fun e w' => e = .returned (.int .i64 (Lib.indexByte s.data.toList c.toNat.toUInt8)) ∧ w' = w := Any.strings_IndexByte Try.lays137 s c w
def Try.lays210_ren : Go.Shelf.Ren := ⟨fun | 210 => 130 | 206 => 154 | n => n, fun | 9 => 9 | 4 => 4 | 3 => 3 | n => n, fun | n => n⟩
theorem Try.lays210 : Go.Proofs.Lays.n210 Try.prog Try.lays210_ren := {
  mixed := by kernel_rfl
  f206 := Try.func154.trans (congrArg some (by kernel_rfl))
  f210 := Try.func130.trans (congrArg some (by kernel_rfl))
  t3 := Try.underlying3
  a3 := Try.isAgg3
  z3 := Try.sizeOf3
  v3 := Try.zeroValue3
  t4 := Try.underlying4
  a4 := Try.isAgg4
  z4 := Try.sizeOf4
  v4 := Try.zeroValue4
  t9 := Try.underlying9
  a9 := Try.isAgg9
  z9 := Try.sizeOf9
  v9 := Try.zeroValue9 }
open Go.RowKit in
theorem Try.stringslite_CutPrefix (s p : ByteArray) (w : World) :
    Calls Try.prog 130 #[.string s, .string p] w fun e w' => e = .returned (.tuple #[.string ⟨(Lib.trimPrefix s.data.toList p.data.toList).toArray⟩, .bool (Lib.hasPrefix s.data.toList p.data.toList)]) ∧ w' = w := Any.stringslite_CutPrefix Try.lays210 s p w
def Try.lays103_ren : Go.Shelf.Ren := ⟨fun | 103 => 98 | 210 => 130 | 206 => 154 | n => n, fun | 9 => 9 | 4 => 4 | 24 => 136 | 3 => 3 | n => n, fun | n => n⟩
theorem Try.lays103 : Go.Proofs.Lays.n103 Try.prog Try.lays103_ren := {
  mixed := by kernel_rfl
  f103 := Try.func98.trans (congrArg some (by kernel_rfl))
  f206 := Try.func154.trans (congrArg some (by kernel_rfl))
  f210 := Try.func130.trans (congrArg some (by kernel_rfl))
  t3 := Try.underlying3
  a3 := Try.isAgg3
  z3 := Try.sizeOf3
  v3 := Try.zeroValue3
  t4 := Try.underlying4
  a4 := Try.isAgg4
  z4 := Try.sizeOf4
  v4 := Try.zeroValue4
  t9 := Try.underlying9
  a9 := Try.isAgg9
  z9 := Try.sizeOf9
  v9 := Try.zeroValue9
  t24 := Try.underlying136
  a24 := Try.isAgg136
  z24 := Try.sizeOf136
  v24 := Try.zeroValue136 }
open Go.RowKit in
theorem Try.strings_CutPrefix (s p : ByteArray) (w : World) :
    Calls Try.prog 98 #[.string s, .string p] w fun e w' => e = .returned (.tuple #[.string ⟨(Lib.trimPrefix s.data.toList p.data.toList).toArray⟩, .bool (Lib.hasPrefix s.data.toList p.data.toList)]) ∧ w' = w := Any.strings_CutPrefix Try.lays103 s p w
def Try.lays144_ren : Go.Shelf.Ren := ⟨fun | 144 => 84 | 143 => 82 | 219 => 122 | 217 => 144 | 225 => 146 | 224 => 147 | 267 => 148 | 266 => 160 | 314 => 162 | n => n, fun | 9 => 9 | 4 => 4 | 3 => 3 | 5 => 5 | 46 => 183 | 146 => 200 | 51 => 199 | n => n, fun | 1 => 0 | n => n⟩
theorem Try.lays144 : Go.Proofs.Lays.n144 Try.prog Try.lays144_ren := {
  mixed := by kernel_rfl
  f143 := Try.func82.trans (congrArg some (by kernel_rfl))
  f144 := Try.func84.trans (congrArg some (by kernel_rfl))
  f217 := Try.func144.trans (congrArg some (by kernel_rfl))
  f219 := Try.func122.trans (congrArg some (by kernel_rfl))
  f224 := Try.func147.trans (congrArg some (by kernel_rfl))
  f225 := Try.func146.trans (congrArg some (by kernel_rfl))
  f266 := Try.func160.trans (congrArg some (by kernel_rfl))
  f267 := Try.func148.trans (congrArg some (by kernel_rfl))
  f314 := Try.func162.trans (congrArg some (by kernel_rfl))
  t3 := Try.underlying3
  a3 := Try.isAgg3
  z3 := Try.sizeOf3
  v3 := Try.zeroValue3
  t4 := Try.underlying4
  a4 := Try.isAgg4
  z4 := Try.sizeOf4
  v4 := Try.zeroValue4
  t5 := Try.underlying5
  a5 := Try.isAgg5
  z5 := Try.sizeOf5
  v5 := Try.zeroValue5
  t9 := Try.underlying9
  a9 := Try.isAgg9
  z9 := Try.sizeOf9
  v9 := Try.zeroValue9
  t46 := Try.underlying183
  a46 := Try.isAgg183
  z46 := Try.sizeOf183
  v46 := Try.zeroValue183
  t51 := Try.underlying199
  a51 := Try.isAgg199
  z51 := Try.sizeOf199
  v51 := Try.zeroValue199
  t146 := Try.underlying200
  a146 := Try.isAgg200
  z146 := Try.sizeOf200
  v146 := Try.zeroValue200
  g1 := by kernel_rfl }
open Go.RowKit Go.Lib in
theorem Try.strings_Contains_one (s : ByteArray) (c : UInt8) (w : World) :
    Calls Try.prog 84 #[.string s, .string ⟨#[c]⟩] w fun e w' => e = .returned (.bool (decide (0 ≤ Lib.indexByte s.data.toList c))) ∧ w' = w := Any.strings_Contains_one Try.lays144 s c w
open Go.RowKit Go.Lib in
theorem Try.strings_Contains (s sub : ByteArray) (m : Int) (w : World) (hs : s.size < 4294967281) (hm : w.cell? ⟨0, 0, none⟩ = some (.int .i64 m)) :
    Calls Try.prog 84 #[.string s, .string sub] w fun e w' => e = .returned (.bool (Lib.contains s.data.toList sub.data.toList)) ∧ w' = w := Any.strings_Contains Try.lays144 s sub m w hs hm
def Try.lays206_ren : Go.Shelf.Ren := ⟨fun | 206 => 154 | n => n, fun | 9 => 9 | 4 => 4 | 3 => 3 | n => n, fun | n => n⟩
theorem Try.lays206 : Go.Proofs.Lays.n206 Try.prog Try.lays206_ren := {
  mixed := by kernel_rfl
  f206 := Try.func154.trans (congrArg some (by kernel_rfl))
  t3 := Try.underlying3
  a3 := Try.isAgg3
  z3 := Try.sizeOf3
  v3 := Try.zeroValue3
  t4 := Try.underlying4
  a4 := Try.isAgg4
  z4 := Try.sizeOf4
  v4 := Try.zeroValue4
  t9 := Try.underlying9
  a9 := Try.isAgg9
  z9 := Try.sizeOf9
  v9 := Try.zeroValue9 }
open Go.RowKit Go.Lib in
theorem Try.stringslite_HasPrefix (s p : ByteArray) (w : World) :
    Calls Try.prog 154 #[.string s, .string p] w fun e w' => e = .returned (.bool (Lib.hasPrefix s.data.toList p.data.toList)) ∧ w' = w := Any.stringslite_HasPrefix Try.lays206 s p w
def Try.lays207_ren : Go.Shelf.Ren := ⟨fun | 207 => 142 | n => n, fun | 9 => 9 | 4 => 4 | 3 => 3 | n => n, fun | n => n⟩
theorem Try.lays207 : Go.Proofs.Lays.n207 Try.prog Try.lays207_ren := {
  mixed := by kernel_rfl
  f207 := Try.func142.trans (congrArg some (by kernel_rfl))
  t3 := Try.underlying3
  a3 := Try.isAgg3
  z3 := Try.sizeOf3
  v3 := Try.zeroValue3
  t4 := Try.underlying4
  a4 := Try.isAgg4
  z4 := Try.sizeOf4
  v4 := Try.zeroValue4
  t9 := Try.underlying9
  a9 := Try.isAgg9
  z9 := Try.sizeOf9
  v9 := Try.zeroValue9 }
open Go.RowKit Go.Lib in
theorem Try.stringslite_HasSuffix (s p : ByteArray) (w : World) (hs : s.size ≤ 9223372036854775807) :
    Calls Try.prog 142 #[.string s, .string p] w fun e w' => e = .returned (.bool (Lib.hasSuffix s.data.toList p.data.toList)) ∧ w' = w := Any.stringslite_HasSuffix Try.lays207 s p w hs
def Try.lays100_ren : Go.Shelf.Ren := ⟨fun | 100 => 115 | 207 => 142 | n => n, fun | 9 => 9 | 4 => 4 | 3 => 3 | n => n, fun | n => n⟩
theorem Try.lays100 : Go.Proofs.Lays.n100 Try.prog Try.lays100_ren := {
  mixed := by kernel_rfl
  f100 := Try.func115.trans (congrArg some (by kernel_rfl))
  f207 := Try.func142.trans (congrArg some (by kernel_rfl))
  t3 := Try.underlying3
  a3 := Try.isAgg3
  z3 := Try.sizeOf3
  v3 := Try.zeroValue3
  t4 := Try.underlying4
  a4 := Try.isAgg4
  z4 := Try.sizeOf4
  v4 := Try.zeroValue4
  t9 := Try.underlying9
  a9 := Try.isAgg9
  z9 := Try.sizeOf9
  v9 := Try.zeroValue9 }
open Go.RowKit Go.Lib in
theorem Try.strings_HasSuffix (s p : ByteArray) (w : World) (hs : s.size ≤ 9223372036854775807) :
    Calls Try.prog 115 #[.string s, .string p] w fun e w' => e = .returned (.bool (Lib.hasSuffix s.data.toList p.data.toList)) ∧ w' = w := Any.strings_HasSuffix Try.lays100 s p w hs
def Try.lays209_ren : Go.Shelf.Ren := ⟨fun | 209 => 131 | 207 => 142 | n => n, fun | 9 => 9 | 4 => 4 | 3 => 3 | n => n, fun | n => n⟩
theorem Try.lays209 : Go.Proofs.Lays.n209 Try.prog Try.lays209_ren := {
  mixed := by kernel_rfl
  f207 := Try.func142.trans (congrArg some (by kernel_rfl))
  f209 := Try.func131.trans (congrArg some (by kernel_rfl))
  t3 := Try.underlying3
  a3 := Try.isAgg3
  z3 := Try.sizeOf3
  v3 := Try.zeroValue3
  t4 := Try.underlying4
  a4 := Try.isAgg4
  z4 := Try.sizeOf4
  v4 := Try.zeroValue4
  t9 := Try.underlying9
  a9 := Try.isAgg9
  z9 := Try.sizeOf9
  v9 := Try.zeroValue9 }
open Go.RowKit Go.Lib in
theorem Try.stringslite_TrimSuffix (s p : ByteArray) (w : World) (hs : s.size ≤ 9223372036854775807) :
    Calls Try.prog 131 #[.string s, .string p] w fun e w' => e = .returned (.string ⟨(Lib.trimSuffix s.data.toList p.data.toList).toArray⟩) ∧ w' = w := Any.stringslite_TrimSuffix Try.lays209 s p w hs
def Try.lays102_ren : Go.Shelf.Ren := ⟨fun | 102 => 99 | 209 => 131 | 207 => 142 | n => n, fun | 9 => 9 | 4 => 4 | 3 => 3 | n => n, fun | n => n⟩
theorem Try.lays102 : Go.Proofs.Lays.n102 Try.prog Try.lays102_ren := {
  mixed := by kernel_rfl
  f102 := Try.func99.trans (congrArg some (by kernel_rfl))
  f207 := Try.func142.trans (congrArg some (by kernel_rfl))
  f209 := Try.func131.trans (congrArg some (by kernel_rfl))
  t3 := Try.underlying3
  a3 := Try.isAgg3
  z3 := Try.sizeOf3
  v3 := Try.zeroValue3
  t4 := Try.underlying4
  a4 := Try.isAgg4
  z4 := Try.sizeOf4
  v4 := Try.zeroValue4
  t9 := Try.underlying9
  a9 := Try.isAgg9
  z9 := Try.sizeOf9
  v9 := Try.zeroValue9 }
open Go.RowKit Go.Lib in
theorem Try.strings_TrimSuffix (s p : ByteArray) (w : World) (hs : s.size ≤ 9223372036854775807) :
    Calls Try.prog 99 #[.string s, .string p] w fun e w' => e = .returned (.string ⟨(Lib.trimSuffix s.data.toList p.data.toList).toArray⟩) ∧ w' = w := Any.strings_TrimSuffix Try.lays102 s p w hs
def Try.lays105_ren : Go.Shelf.Ren := ⟨fun | 105 => 129 | 212 => 151 | 99 => 152 | 165 => 121 | 166 => 87 | 170 => 153 | 169 => 89 | 263 => 163 | 264 => 164 | 206 => 154 | 240 => 123 | 241 => 145 | 276 => 149 | 277 => 161 | n => n, fun | 9 => 9 | 3 => 3 | 4 => 4 | 20 => 20 | 0 => 0 | 46 => 183 | 109 => 186 | 5 => 5 | 72 => 127 | 76 => 132 | 51 => 199 | 146 => 200 | 53 => 95 | 148 => 203 | 70 => 124 | 37 => 125 | 75 => 131 | 127 => 165 | 164 => 184 | 80 => 135 | n => n, fun | n => n⟩
theorem Try.lays105 : Go.Proofs.Lays.n105 Try.prog Try.lays105_ren := {
  mixed := by kernel_rfl
  f99 := Try.func152.trans (congrArg some (by kernel_rfl))
  f105 := Try.func129.trans (congrArg some (by kernel_rfl))
  f165 := Try.func121.trans (congrArg some (by kernel_rfl))
  f166 := Try.func87.trans (congrArg some (by kernel_rfl))
  f169 := Try.func89.trans (congrArg some (by kernel_rfl))
  f170 := Try.func153.trans (congrArg some (by kernel_rfl))
  f206 := Try.func154.trans (congrArg some (by kernel_rfl))
  f212 := Try.func151.trans (congrArg some (by kernel_rfl))
  f240 := Try.func123.trans (congrArg some (by kernel_rfl))
  f241 := Try.func145.trans (congrArg some (by kernel_rfl))
  f263 := Try.func163.trans (congrArg some (by kernel_rfl))
  f264 := Try.func164.trans (congrArg some (by kernel_rfl))
  f276 := Try.func149.trans (congrArg some (by kernel_rfl))
  f277 := Try.func161.trans (congrArg some (by kernel_rfl))
  t0 := Try.underlying0
  a0 := Try.isAgg0
  z0 := Try.sizeOf0
  v0 := Try.zeroValue0
  t3 := Try.underlying3
  a3 := Try.isAgg3
  z3 := Try.sizeOf3
  v3 := Try.zeroValue3
  t4 := Try.underlying4
  a4 := Try.isAgg4
  z4 := Try.sizeOf4
  v4 := Try.zeroValue4
  t5 := Try.underlying5
  a5 := Try.isAgg5
  z5 := Try.sizeOf5
  v5 := Try.zeroValue5
  t9 := Try.underlying9
  a9 := Try.isAgg9
  z9 := Try.sizeOf9
  v9 := Try.zeroValue9
  t20 := Try.underlying20
  a20 := Try.isAgg20
  z20 := Try.sizeOf20
  v20 := Try.zeroValue20
  t37 := Try.underlying125
  a37 := Try.isAgg125
  z37 := Try.sizeOf125
  v37 := Try.zeroValue125
  t46 := Try.underlying183
  a46 := Try.isAgg183
  z46 := Try.sizeOf183
  v46 := Try.zeroValue183
  t51 := Try.underlying199
  a51 := Try.isAgg199
  z51 := Try.sizeOf199
  v51 := Try.zeroValue199
  t53 := Try.underlying95
  a53 := Try.isAgg95
  z53 := Try.sizeOf95
  v53 := Try.zeroValue95
  t70 := Try.underlying124
  a70 := Try.isAgg124
  z70 := Try.sizeOf124
  v70 := Try.zeroValue124
  t72 := Try.underlying127
  a72 := Try.isAgg127
  z72 := Try.sizeOf127
  v72 := Try.zeroValue127
  t75 := Try.underlying131
  a75 := Try.isAgg131
  z75 := Try.sizeOf131
  v75 := Try.zeroValue131
  t76 := Try.underlying132
  a76 := Try.isAgg132
  z76 := Try.sizeOf132
  v76 := Try.zeroValue132
  t109 := Try.underlying186
  a109 := Try.isAgg186
  z109 := Try.sizeOf186
  v109 := Try.zeroValue186
  t127 := Try.underlying165
  a127 := Try.isAgg165
  z127 := Try.sizeOf165
  v127 := Try.zeroValue165
  t146 := Try.underlying200
  a146 := Try.isAgg200
  z146 := Try.sizeOf200
  v146 := Try.zeroValue200
  t148 := Try.underlying203
  a148 := Try.isAgg203
  z148 := Try.sizeOf203
  v148 := Try.zeroValue203
  t164 := Try.underlying184
  a164 := Try.isAgg184
  z164 := Try.sizeOf184
  v164 := Try.zeroValue184 }
theorem Try.Builder_Extra_105 : Builder.Extra Try.prog Try.lays105_ren := {
  sizeBuilder := by kernel_rfl
  liesBuilder := by kernel_rfl
  t5 := Try.underlying5
  a5 := Try.isAgg5
  z5 := Try.sizeOf5
  v5 := Try.zeroValue5
  infoByte := by kernel_rfl
  cellsByte := by kernel_rfl
  sizeByte := by kernel_rfl
  neB5 := by decide }
open Go.RowKit Go.Lib in
theorem Try.strings_Repeat (s : ByteArray) (c : Nat) (w : World) (hc : c ≤ 9223372036854775807) (hlen : s.size * c ≤ 140737488355328) :
    Calls Try.prog 129 #[.string s, .int .i64 c] w fun e w' => e = .returned (.string ⟨(Lib.repeatL s.data.toList c).toArray⟩) ∧ Below w.heap.size w w' := Any.strings_Repeat Try.lays105 Try.Builder_Extra_105 s c w hc hlen
end Go.Proofs
end

section
set_option linter.unusedVariables false
set_option linter.unusedSimpArgs false
namespace Go.Proofs.Ytfiamddinkokbaa
open Go.RowKit Go.Shelf Go.Proofs.YtfiamddinkokbaaW.PrintWords
attribute [local go_sem] Oper.semAt_some
def leftIn (B : Nat) (W : World) : Nat := match W.cell? ⟨B, 0, none⟩ with | some (.string s) => s.size | _ => 0
theorem leftIn_eq {B : Nat} {W : World} {s : ByteArray} (h : W.cell? ⟨B, 0, none⟩ = some (.string s)) : leftIn B W = s.size := by simp [leftIn, h]
theorem own_lower {w : World} {base base' : Nat} {e : TypeId} {size n : Nat} {v : Value} {xs : List Value} (hb : base' ≤ base) (h : w.ownsRow base e size v n xs) : w.ownsRow base' e size v n xs := by
  obtain ⟨h1, h2⟩ := h
  refine ⟨h1, ?_⟩
  rcases h2 with h2 | ⟨g, cap, cur, hv, hg, r⟩
  · exact Or.inl h2
  · exact Or.inr ⟨g, cap, cur, hv, Nat.le_trans hb hg, r⟩
theorem dropLine_lt : ∀ l : List UInt8, l ≠ [] → (dropLine l).length < l.length
  | [], h => absurd rfl h
  | c :: t, _ => by
    by_cases hc : c = 10
    · simp [dropLine, hc]
    · by_cases ht : t = []
      · subst ht; simp [dropLine, hc]
      · have := dropLine_lt t ht
        simp [dropLine, hc]; omega
set_option maxRecDepth 100000 in
set_option maxHeartbeats 1000000 in
theorem lines1_in (n : Nat) (hn : 1 ≤ n) (l B : Nat) (s0 : ByteArray) (hsz : s0.size ≤ 4000000000) (J : List ByteArray → World → Prop)
    (hset : ∀ s W v, J s W → J s (W.setCell ⟨B, 0, none⟩ v)) (hdr : ∀ s W, J s W → J s W.drew)
    (hY : ∀ pre x W1, J pre W1 → pre.length < (splitB s0).length → YieldAt Fence.wide (n - 1) Try.prog l #[.string x] W1 fun e W' => e = .returned (.bool true) ∧ J (pre ++ [x]) W' ∧ W'.heap[B]? = W1.heap[B]?)
    (W : World) (hB : Boxed W B 9 (.string s0)) (h0 : J [] W) :
    CallsIn Fence.wide n Try.prog 119 #[.func (.yield l) #[] #[], .pointer (some ⟨B, 0, none⟩)] W fun e W' => (∃ v, e = .returned v) ∧ ∃ xs, xs = splitB s0 ∧ J xs W' := by
  refine callsIn_of_wp Try.func119 rfl trivial ?_ rfl
  simp only [Try.ntmps119, List.size_toArray, List.length_cons, List.length_nil, Nat.reduceAdd, Nat.reduceSub, Array.replicate_succ, Array.replicate_zero, List.push_toArray, List.append_toArray, List.nil_append, List.cons_append]
  gi_wp2
  gi_loopw [3, 4] (fun _ _ wr => ∃ (pre : List ByteArray) (s : ByteArray), Boxed wr B 9 (.string s) ∧ s.size ≤ s0.size ∧ splitB s0 = pre ++ splitB s ∧ J pre wr)
    (fun _ _ wr => leftIn B wr)
  case atStart => exact ⟨[], s0, hB, Nat.le_refl _, rfl, h0⟩
  case round =>
    obtain ⟨pre, s, hb, hle, hx, hJ⟩ := hrel
    have hsz' : s.size ≤ 4000000000 := by omega
    have hc := hb.cell
    have hf := hb.frozen
    by_cases hs : s.size = 0
    · have hs0 : decide ((0 : Int) < (s.size : Int)) = false := by simp [hs]
      have hnil : splitB s = [] := by
        have : s.data.toList = [] := List.eq_nil_of_length_eq_zero (by rw [Array.length_toList]; exact hs)
        simp [splitB, this, splitL]
      have HE := Lib.hid (show ∃ xs, xs = splitB s0 ∧ J xs wr from ⟨pre, by rw [hx, hnil, List.append_nil], hJ⟩)
      clear hx hnil
      gi_wp2
      go_end0
      exact ⟨⟨_, rfl⟩, HE.out⟩
    · have hs0 : decide ((0 : Int) < (s.size : Int)) = true := by simp; omega
      have hne : s.data.toList ≠ [] := by
        intro h; apply hs; have := congrArg List.length h; rw [Array.length_toList] at this; exact this
      have hnx : splitB s = toB (takeLine s.data.toList) :: splitB (toB (dropLine s.data.toList)) := by
        unfold splitB; rw [splitL_next _ hne]; simp
      have HD : Hid ((dropLine s.data.toList).length < s.size) := by
        have := dropLine_lt _ hne; rw [Array.length_toList] at this; exact this
      have HX := Lib.hid hx
      have HN := Lib.hid hnx
      clear hx hnx
      have hcall := Try.strings_IndexByte s 10 wr
      rw [show (10 : Int).toNat.toUInt8 = 10 from rfl] at hcall
      by_cases hi : 0 ≤ Lib.indexByte s.data.toList 10
      · obtain ⟨i, hi'⟩ := Int.eq_ofNat_of_zero_le hi
        rw [hi'] at hcall
        have hlt : i < s.size := by
          have := (Lib.indexByte_some hi').1
          have := (List.getElem?_eq_some_iff.1 this).1
          rw [Array.length_toList] at this; exact this
        have hl := line_of_some _ i hi'
        have HL := Lib.hid hl
        clear hl hi hi'
        have HCALL := Lib.hid hcall
        clear hcall
        gi_wp2_with (refine ⟨trivial, ?_⟩; gi_at_call 120; refine (callsIn_wide.2 HCALL.out).mono ?_; rintro e w' ⟨rfl, rfl⟩)
        gi_region
        have hb1 : Boxed (w'.setCell ⟨B, 0, none⟩ (.string (s.extract (i + 1) s.size))).drew B 9 (.string (s.extract (i + 1) s.size)) := hb.set _
        have e1 : s.extract 0 (i + 1) = toB (takeLine s.data.toList) := by
          rw [HL.out.1, ← toB_data (s.extract 0 (i + 1)), Lib.extract_data]; simp
        have e2 : s.extract (i + 1) s.size = toB (dropLine s.data.toList) := by
          rw [HL.out.2, ← toB_data (s.extract (i + 1) s.size), Lib.extract_data, List.take_of_length_le (by rw [List.length_drop, Array.length_toList]; exact Nat.le_refl _)]
        have hJ1 : J pre (w'.setCell ⟨B, 0, none⟩ (.string (s.extract (i + 1) s.size))).drew := hdr _ _ (hset _ _ _ hJ)
        have hlen : pre.length < (splitB s0).length := by rw [HX.out, HN.out]; simp
        obtain ⟨fn, tmps, assign, body, hy, hR⟩ := hY pre (s.extract 0 (i + 1)) _ hJ1 hlen
        have E1 := Lib.hid e1
        have E2 := Lib.hid e2
        clear e1 e2 hlen
        gi_wp2
        refine hR.mono ?_
        rintro e W3 ⟨rfl, hJ3, hk3⟩
        have hb3 : Boxed W3 B 9 (.string (s.extract (i + 1) s.size)) := hk3.trans hb1
        gi_wp2
        go_roundw
        case rel =>
          refine ⟨pre ++ [s.extract 0 (i + 1)], s.extract (i + 1) s.size, hb3, ?_, ?_, hJ3⟩
          · rw [E2.out, toB_size]; have := HD.out; omega
          · rw [HX.out, HN.out, E1.out, E2.out]; simp
        case measure =>
          rw [leftIn_eq hb3.cell, leftIn_eq hc, E2.out, toB_size]; exact HD.out
      · have hi0 : Lib.indexByte s.data.toList 10 = -1 := by have := Lib.indexByte_ge s.data.toList 10; omega
        rw [hi0] at hcall
        have hl := line_of_none _ hi0
        have HL := Lib.hid hl
        clear hl hi hi0
        have HCALL := Lib.hid hcall
        clear hcall
        have hb1 : Boxed (wr.setCell ⟨B, 0, none⟩ (.string ⟨#[]⟩)) B 9 (.string ⟨#[]⟩) := hb.set _
        have hJ1 : J pre (wr.setCell ⟨B, 0, none⟩ (.string ⟨#[]⟩)) := hset _ _ _ hJ
        have hlen : pre.length < (splitB s0).length := by rw [HX.out, HN.out]; simp
        obtain ⟨fn, tmps, assign, body, hy, hR⟩ := hY pre s _ hJ1 hlen
        clear hlen
        gi_wp2_with (refine ⟨trivial, ?_⟩; gi_at_call 120; refine (callsIn_wide.2 HCALL.out).mono ?_; rintro e w' ⟨rfl, rfl⟩)
        refine hR.mono ?_
        rintro e W3 ⟨rfl, hJ3, hk3⟩
        have hb3 : Boxed W3 B 9 (.string ⟨#[]⟩) := hk3.trans hb1
        gi_wp2
        go_roundw
        case rel =>
          refine ⟨pre ++ [s], ⟨#[]⟩, hb3, Nat.zero_le _, ?_, hJ3⟩
          rw [HX.out, HN.out, HL.out.1, HL.out.2, toB_data]; simp [splitB, splitL, toB]
        case measure =>
          rw [leftIn_eq hb3.cell, leftIn_eq hc]
          show 0 < s.size
          omega
theorem lines_seq (n : Nat) (hn : 1 ≤ n) (B : Nat) (s0 : ByteArray) (hsz : s0.size ≤ 4000000000) :
    SeqCell Fence.wide n Try.prog 119 #[.pointer (some ⟨B, 0, none⟩)] (fun x : ByteArray => #[Value.string x]) B (.cells #[.string s0] 9 (0, 0)) (fun xs => xs = splitB s0) (splitB s0).length :=
  fun l J W hB hset hdr hY h0 => lines1_in n hn l B s0 hsz J hset hdr hY W hB h0
set_option maxHeartbeats 1000000 in
theorem lines_in (n : Nat) (s : ByteArray) (w : World) :
    CallsIn Fence.wide n Try.prog 80 #[.string s] w fun e w' => e = .returned (.func (.func 119) #[] #[.pointer (some ⟨w.heap.size, 0, none⟩)]) ∧ w' = w.alloc (.cells #[.string s] 9) := by
  refine callsIn_of_wp Try.func80 rfl trivial ?_ rfl
  simp only [Try.ntmps80, List.size_toArray, List.length_cons, List.length_nil, Nat.reduceAdd, Nat.reduceSub, Array.replicate_succ, Array.replicate_zero, List.push_toArray, List.append_toArray, List.nil_append, List.cons_append]
  gi_wp2
  go_ret
  exact ⟨rfl, rfl⟩
theorem split_info : (Try.prog.info? 9).map (fun i => (i.zero, i.size, i.bytes)) = some (some (.string ⟨#[]⟩), 1, 16) := by kernel_rfl
set_option maxRecDepth 100000 in
set_option maxHeartbeats 2000000 in
theorem appendSeq_in (n : Nat) (hn : 3 ≤ n) (s : ByteArray) (hsz : s.size ≤ 4000000000) (n₀ B : Nat) (w0 w : World) (h0B : n₀ ≤ B) (hw0 : n₀ ≤ w0.heap.size) (hbel : Below n₀ w0 w) (hB : Boxed w B 9 (.string s)) :
    CallsIn Fence.wide n Try.prog 118 #[.slice none 0 0, .func (.func 119) #[] #[.pointer (some ⟨B, 0, none⟩)]] w fun e W' => ∃ v, e = .returned v ∧ W'.ownsRow n₀ 9 1 v (splitB s).length ((splitB s).map Value.string) ∧ Below n₀ w0 W' := by
  have h1 : 1 ≤ n := by omega
  obtain ⟨i0, hi, hz0, hz1, hz2⟩ := info_parts split_info
  refine callsIn_of_wp_marks Try.func118 rfl trivial ?_ rfl
  simp only [Try.ntmps118, List.size_toArray, List.length_cons, List.length_nil, Nat.reduceAdd, Nat.reduceSub, Array.replicate_succ, Array.replicate_zero, List.push_toArray, List.append_toArray, List.nil_append, List.cons_append]
  have hBlt := hB.lt
  have bO := Boxed.new w 36 (.slice none 0 0)
  have hB1 : Boxed (w.alloc (.cells #[.slice none 0 0] 36)) B 9 (.string s) := hB.alloc _
  have hbel1 : Below n₀ w0 (w.alloc (.cells #[.slice none 0 0] 36)) := hbel.alloc (Nat.le_trans hw0 hbel.size) _
  have hlen := splitL_length_le s.data.toList
  have hlen2 : (splitB s).length ≤ 4000000000 := by
    unfold splitB; rw [List.length_map]; rw [Array.length_toList] at hlen; exact Nat.le_trans hlen hsz
  gi_wp2
  refine wpIn_rangeFunc_cell rfl h1 (gf := 119) (lb := #[.pointer (some ⟨B, 0, none⟩)]) rfl trivial (enters_of Try.func119 (by kernel_rfl) rfl)
    (lines_seq (n - 1) (by omega) B s hsz) hB1 (fun _ => rfl)
    (fun pre W => (∃ v, Boxed W w.heap.size 36 v ∧ W.ownsRow w.heap.size 9 1 v pre.length (pre.map Value.string) ∧ True) ∧ Below n₀ w0 W ∧ w.heap.size ≤ W.heap.size)
    ?own ?setB ?drew ⟨⟨_, bO, World.ownsRow_nil _ _ _ _, trivial⟩, hbel1, by simp⟩
    (fun x => { tmps := #[.slice none 0 0, .func (.func 119) #[] #[.pointer (some ⟨B, 0, none⟩)], .pointer (some ⟨w.heap.size, 0, none⟩), undef, .slice none 0 0, .string x, .func (.func 119) #[] #[.pointer (some ⟨B, 0, none⟩)], .string x, undef, undef, undef, undef, undef], defers := [] }) ?assign ?body ?done
  case own => exact OwnFrom.and (Own.from (holdsRow_own w.heap.size w.heap.size 36 9 1 (fun pre : List ByteArray => pre.length) (fun pre => pre.map Value.string) (fun _ _ => True)) _) (OwnFrom.and (ownFrom_below hw0 (by have := hbel.size; simp; omega)) (fun _ _ _ _ hs hg _ => Nat.le_trans hs hg.size))
  case setB =>
    rintro pre W v ⟨⟨u, hu, hr, _⟩, hb, hz⟩
    refine ⟨⟨u, hu.kept (grownBy_setCell' W B v) (by simp; omega), ownsRow_setCell_below hr hBlt v, trivial⟩, hb.setCell (p := ⟨B, 0, none⟩) h0B v, ?_⟩
    simpa [World.setCell] using hz
  case drew =>
    rintro pre W ⟨⟨u, hu, hr, _⟩, hb, hz⟩
    exact ⟨⟨u, hu, hr, trivial⟩, hb.drew, hz⟩
  case assign =>
    intro l x W K hK
    gi_wp2
    exact hK
  case body =>
    rintro l pre x W ⟨⟨v, hv, hrow, _⟩, hb, hz⟩ hlt
    have hc := hv.cell
    gi_wp2_with (gi_at_builtin; refine wpListIn_append_own _ rfl _ _ 36 rfl w.heap.size 9 i0 (.string ⟨#[]⟩) 1 16 Try.underlying36 hi hz0 hz1 hz2 rfl (by decide) _ _ _ rfl (hrow.alloc _) ⟨W.heap.size, 0, none⟩ 1 1 [.string x] rfl rfl (cell_one_new _ _ _) (by simp [Value.oneCell']) (by unfold maxLen; omega) (by omega) (by simp; omega) ?_; intro v' w1 hown' hgrow _; obtain ⟨g', cap', rfl⟩ := ownsRow_succ hown'; obtain ⟨hv1, hv2, hr2, hk2, hb2⟩ := hv.appended (by decide) hrow hz (Nat.le_refl _) hown' hgrow; have hc1 := hv1.cell; have hf1 := hv1.frozen)
    exact ⟨hk2.from _, hb2.block B hBlt, ⟨_, hv2, hr2⟩, hb.trans (hb2.mono (Nat.le_trans h0B (Nat.le_of_lt hBlt))), by have := hb2.size; simp [World.setCell] at this; omega⟩
  case done =>
    rintro D ys W hD rfl ⟨⟨v, hv, hrow, _⟩, hb, hz⟩ hK
    have hc := hv.cell
    gi_wp2
    refine ⟨by simp, .inl ⟨_, _, rfl, run_takeDeferred hK, ?_⟩⟩
    have hrow' := ownsRow_putObj hrow (.deferred none) hK rfl
    exact ⟨_, results_tmp rfl _ _ _, v, rfl, own_lower (Nat.le_trans h0B (Nat.le_of_lt hBlt)) hrow', hb.grown (grownBy_putObj' W D _) (Nat.le_trans hw0 hb.size) (fun k e => by cases e; simp at hD; omega)⟩
set_option maxHeartbeats 1000000 in
theorem collect_in (n : Nat) (hn : 4 ≤ n) (s : ByteArray) (hsz : s.size ≤ 4000000000) (n₀ B : Nat) (w0 w : World) (h0B : n₀ ≤ B) (hw0 : n₀ ≤ w0.heap.size) (hbel : Below n₀ w0 w) (hB : Boxed w B 9 (.string s)) :
    CallsIn Fence.wide n Try.prog 79 #[.func (.func 119) #[] #[.pointer (some ⟨B, 0, none⟩)]] w fun e W' => ∃ v, e = .returned v ∧ W'.ownsRow n₀ 9 1 v (splitB s).length ((splitB s).map Value.string) ∧ Below n₀ w0 W' := by
  refine callsIn_of_wp Try.func79 rfl trivial ?_ rfl
  simp only [Try.ntmps79, List.size_toArray, List.length_cons, List.length_nil, Nat.reduceAdd, Nat.reduceSub, Array.replicate_succ, Array.replicate_zero, List.push_toArray, List.append_toArray, List.nil_append, List.cons_append]
  have h1 : 1 ≤ n := by omega
  have hA := appendSeq_in (n - 1) (by omega) s hsz n₀ B w0 w h0B hw0 hbel hB
  have HA := Lib.hid hA
  clear hA
  gi_wp2_with (refine ⟨trivial, ?_⟩; gi_at_call 118; refine HA.out.mono ?_; rintro e w' ⟨v, rfl, hr, hb⟩)
  go_ret
  exact ⟨v, rfl, hr, hb⟩
set_option maxHeartbeats 1000000 in
theorem split_calls (s : ByteArray) (hsz : s.size ≤ 4000000000) (w : World) :
    Calls Try.prog 29 #[.string s] w fun e w' => ∃ v, e = .returned v ∧ w'.ownsRow w.heap.size 9 1 v (splitB s).length ((splitB s).map Value.string) ∧ Below w.heap.size w w' := by
  refine (callsIn_wide (n := 9)).1 ?_
  refine callsIn_of_wp Try.func29 rfl trivial ?_ rfl
  simp only [Try.ntmps29, List.size_toArray, List.length_cons, List.length_nil, Nat.reduceAdd, Nat.reduceSub, Array.replicate_succ, Array.replicate_zero, List.push_toArray, List.append_toArray, List.nil_append, List.cons_append]
  have hC := collect_in 8 (by omega) s hsz w.heap.size w.heap.size w _ (Nat.le_refl _) (Nat.le_refl _) ((Below.refl _ _).alloc (Nat.le_refl _) _) (Boxed.new w 9 (.string s))
  have HC := Lib.hid hC
  clear hC
  gi_wp2_with (refine ⟨trivial, ?_⟩; first | (gi_at_call 80; refine (lines_in 8 s w).mono ?_; rintro e w' ⟨rfl, rfl⟩) | (gi_at_call 79; refine HC.out.mono ?_; rintro e w' ⟨v, rfl, hr, hb⟩))
  go_ret
  exact ⟨v, rfl, hr, hb⟩
#print axioms split_calls
end Go.Proofs.Ytfiamddinkokbaa
end

section
set_option linter.unusedVariables false
set_option linter.unusedSimpArgs false
namespace Go.Proofs.Ytfiamddinkokbaa
open Go.RowKit Go.Shelf Go.Proofs.YtfiamddinkokbaaW.PrintWords
def cutL (c : UInt8) (l : List UInt8) : List UInt8 := l.dropWhile (· == c)
theorem cutL_eq (c : UInt8) (l : List UInt8) (k : Nat) (h : ∀ j, j < k → l[j]? = some c) (hk : ∀ x, l[k]? = some x → x ≠ c) : cutL c l = l.drop k := by
  induction k generalizing l with
  | zero =>
    cases l with
    | nil => rfl
    | cons a t => simp [cutL, hk a (by simp)]
  | succ k ih =>
    cases l with
    | nil => simp [cutL]
    | cons a t =>
      have h0 : a = c := by have := h 0 (by omega); simpa using this
      have := ih t (fun j hj => by have := h (j + 1) (by omega); simpa using this) (fun x hx => hk x (by simpa using hx))
      simp only [cutL] at this ⊢
      simp [h0, this]
theorem getElem?_byte (s : ByteArray) (k : Nat) (h : k < s.size) : s.data.toList[k]? = some s[k] := by
  rw [List.getElem?_eq_getElem (by rw [Array.length_toList]; exact h)]; rfl
theorem iterPos_of {w : World} {k p : Nat} {s : ByteArray} (h : w.heap[k]? = some (.stringIter s p)) : w.iterPos k = p := by simp [World.iterPos, h]
set_option maxRecDepth 100000 in
set_option maxHeartbeats 2000000 in
theorem cutLeft_calls (s : ByteArray) (hsz : s.size ≤ 4000000000) (c : UInt8) (hc : c.toNat < 128) (w : World) :
    Calls Try.prog 85 #[.string s, .string ⟨#[c]⟩] w fun e w' => e = .returned (.string (toB (cutL c s.data.toList))) ∧ Below w.heap.size w w' := by
  go_enter Try.func85, Try.ntmps85
  go_wp2
  go_loopw [5, 6, 7, 9] (fun _ _ _ _ wr => ∃ k : Nat, k ≤ s.size ∧ wr.heap[w.heap.size]? = some (.stringIter s k) ∧ Below w.heap.size w wr ∧ Hid (∀ j, j < k → s.data.toList[j]? = some c))
    (fun _ _ _ _ wr => s.size - wr.iterPos w.heap.size)
  case atStart => exact ⟨0, Nat.zero_le _, World.iter_heap _ _ _, (Below.refl _ _).alloc (Nat.le_refl _) _, fun j hj => by omega⟩
  case round =>
    obtain ⟨wo, rfl⟩ : ∃ wo : World, wo = wr := ⟨_, rfl⟩
    obtain ⟨k, hk, hit, hb, HC⟩ := hrel
    have HB := Lib.hid hb
    clear hb
    by_cases hlt : k < s.size
    · by_cases heq : s[k] = c
      · have hn := Lib.run_next_ascii_at (P := Try.prog) wo w.heap.size s k 0 hit hlt (by rw [heq]; exact hc)
        rw [heq] at hn
        have hit2 : (wo.iterAt w.heap.size s (k + 1)).heap[w.heap.size]? = some (.stringIter s (k + 1)) := Lib.iterAt_heap _ _ _ _ _ hit
        have HB2 : Hid (Below w.heap.size w (wo.iterAt w.heap.size s (k + 1))) := Lib.below_iterAt HB.out (Nat.le_refl _) _ _
        have hlt2 : w.heap.size < (wo.iterAt w.heap.size s (k + 1)).heap.size := (Array.getElem?_eq_some_iff.1 hit2).1
        have HM : Hid (wo.iterPos w.heap.size = k) := iterPos_of hit
        have H2 := Lib.hid (And.intro hit2 (And.intro HB2.out hlt2))
        clear hit2 HB2 hlt2 hit
        go_wp2
        obtain ⟨wm, hwm⟩ : ∃ wm : World, wm = wo.iterAt w.heap.size s (k + 1) := ⟨_, rfl⟩
        rw [← hwm] at H2 ⊢
        clear hwm hn
        go_loopw [7, 9] (fun v7 _ wr => ∃ p : Nat, p ≤ 1 ∧ wr.heap[wm.heap.size]? = some (.stringIter ⟨#[c]⟩ p) ∧ Hid (wr.heap[w.heap.size]? = some (.stringIter s (k + 1))) ∧ Hid (Below w.heap.size w wr) ∧ v7 = .bool (decide (p = 1)))
          (fun _ _ wr => 1 - wr.iterPos wm.heap.size)
        case atStart => exact ⟨0, by omega, World.iter_heap _ _ _, (Below.heap_alloc _ _ _ H2.out.2.2).trans H2.out.1, (H2.out.2.1.alloc (by have := H2.out.2.2; omega) _), by rfl⟩
        case round =>
          obtain ⟨p, hp, hit3, HI, HB3, rfl⟩ := hrel
          have hlt3 : wm.heap.size < wr.heap.size := (Array.getElem?_eq_some_iff.1 hit3).1
          by_cases hp0 : p = 0
          · subst hp0
            have hn := Lib.run_next_ascii_at (P := Try.prog) wr wm.heap.size ⟨#[c]⟩ 0 0 hit3 (by show 0 < 1; omega) hc
            have hn2 : (Instr.next (.pointer (some ⟨wm.heap.size, 0, none⟩)) true 0).run Try.prog wr = .ok (.tuple #[.bool true, .int .i64 (0 : Nat), .int .i32 c.toNat]) (wr.iterAt wm.heap.size ⟨#[c]⟩ 1) := hn
            clear hn
            have hit4 := Lib.iterAt_heap wr wm.heap.size ⟨#[c]⟩ 0 1 hit3
            have HI4 : Hid ((wr.iterAt wm.heap.size ⟨#[c]⟩ 1).heap[w.heap.size]? = some (.stringIter s (k + 1))) := (Lib.iterAt_other _ _ _ _ _ (by have := H2.out.2.2; omega)).trans HI.out
            have HB4 : Hid (Below w.heap.size w (wr.iterAt wm.heap.size ⟨#[c]⟩ 1)) := Lib.below_iterAt HB3.out (by have := H2.out.2.2; omega) _ _
            have HP4 : Hid ((wr.iterAt wm.heap.size ⟨#[c]⟩ 1).iterPos wm.heap.size = 1) := iterPos_of hit4
            have HP3 : Hid (wr.iterPos wm.heap.size = 0) := iterPos_of hit3
            have HIT4 := Lib.hid hit4
            clear hit4 hit3
            go_wp2
            go_roundw
            case rel => exact ⟨1, by omega, HIT4.out, HI4, HB4, by simp⟩
            case measure => rw [HP4.out, HP3.out]; omega
          · have hp1 : p = 1 := by omega
            subst hp1
            have hn := Lib.run_next_end_at (P := Try.prog) wr wm.heap.size ⟨#[c]⟩ 1 0 hit3 (by show ¬ 1 < 1; omega)
            clear hit3
            have HP5 : Hid (wr.iterPos w.heap.size = k + 1) := iterPos_of HI.out
            go_wp2
            go_roundw
            case rel =>
              refine ⟨k + 1, by omega, HI.out, HB3.out, fun j hj => ?_⟩
              by_cases hj2 : j < k
              · exact HC.out j hj2
              · have : j = k := by omega
                subst this
                rw [← heq]; exact getElem?_byte s j hlt
            case measure => rw [HP5.out, HM.out]; omega
      · have hn0 := Lib.run_next_any_at (P := Try.prog) wo w.heap.size s k 0 hit hlt
        have hex : ∃ r wd : Nat, r ≠ c.toNat ∧ r ≤ 2147483647 ∧ 1 ≤ wd ∧ (Instr.next (.pointer (some ⟨w.heap.size, 0, none⟩)) true 0).run Try.prog wo = .ok (.tuple #[.bool true, .int .i64 k, .int .i32 r]) (wo.iterAt w.heap.size s (k + wd)) := by
          by_cases ha : (s[k]'hlt).toNat < 128
          · have hd := decode_ascii s k hlt ha
            rw [hd] at hn0
            exact ⟨_, _, fun e => heq (UInt8.toNat_inj.1 e), by omega, Nat.le_refl _, hn0⟩
          · have hd := decode_high s k hlt (by omega)
            exact ⟨_, _, by omega, decode_le s k, hd.2, hn0⟩
        clear hn0
        obtain ⟨r, wd, hr1, hr2, hr3, hn⟩ := hex
        have hrc : ((r : Int) == (c.toNat : Int)) = false := beq_eq_false_iff_ne.2 (by omega)
        have hit2 : (wo.iterAt w.heap.size s (k + wd)).heap[w.heap.size]? = some (.stringIter s (k + wd)) := Lib.iterAt_heap _ _ _ _ _ hit
        have HB2 : Hid (Below w.heap.size w (wo.iterAt w.heap.size s (k + wd))) := Lib.below_iterAt HB.out (Nat.le_refl _) _ _
        have hlt2 : w.heap.size < (wo.iterAt w.heap.size s (k + wd)).heap.size := (Array.getElem?_eq_some_iff.1 hit2).1
        have HM : Hid (wo.iterPos w.heap.size = k) := iterPos_of hit
        have H2 := Lib.hid (And.intro hit2 (And.intro HB2.out hlt2))
        clear hit2 HB2 hlt2 hit
        go_wp2
        obtain ⟨wm, hwm⟩ : ∃ wm : World, wm = wo.iterAt w.heap.size s (k + wd) := ⟨_, rfl⟩
        rw [← hwm] at H2 ⊢
        clear hwm hn
        go_loopw [7, 9] (fun v7 _ wr => ∃ p : Nat, p ≤ 1 ∧ wr.heap[wm.heap.size]? = some (.stringIter ⟨#[c]⟩ p) ∧ Hid (wr.heap[w.heap.size]? = some (.stringIter s (k + wd))) ∧ Hid (Below w.heap.size w wr) ∧ v7 = .bool false)
          (fun _ _ wr => 1 - wr.iterPos wm.heap.size)
        case atStart => exact ⟨0, by omega, World.iter_heap _ _ _, (Below.heap_alloc _ _ _ H2.out.2.2).trans H2.out.1, (H2.out.2.1.alloc (by have := H2.out.2.2; omega) _), by rfl⟩
        case round =>
          obtain ⟨p, hp, hit3, HI, HB3, rfl⟩ := hrel
          have hlt3 : wm.heap.size < wr.heap.size := (Array.getElem?_eq_some_iff.1 hit3).1
          by_cases hp0 : p = 0
          · subst hp0
            have hn := Lib.run_next_ascii_at (P := Try.prog) wr wm.heap.size ⟨#[c]⟩ 0 0 hit3 (by show 0 < 1; omega) hc
            have hn2 : (Instr.next (.pointer (some ⟨wm.heap.size, 0, none⟩)) true 0).run Try.prog wr = .ok (.tuple #[.bool true, .int .i64 (0 : Nat), .int .i32 c.toNat]) (wr.iterAt wm.heap.size ⟨#[c]⟩ 1) := hn
            clear hn
            have hit4 := Lib.iterAt_heap wr wm.heap.size ⟨#[c]⟩ 0 1 hit3
            have HI4 : Hid ((wr.iterAt wm.heap.size ⟨#[c]⟩ 1).heap[w.heap.size]? = some (.stringIter s (k + wd))) := (Lib.iterAt_other _ _ _ _ _ (by have := H2.out.2.2; omega)).trans HI.out
            have HB4 : Hid (Below w.heap.size w (wr.iterAt wm.heap.size ⟨#[c]⟩ 1)) := Lib.below_iterAt HB3.out (by have := H2.out.2.2; omega) _ _
            have HP4 : Hid ((wr.iterAt wm.heap.size ⟨#[c]⟩ 1).iterPos wm.heap.size = 1) := iterPos_of hit4
            have HP3 : Hid (wr.iterPos wm.heap.size = 0) := iterPos_of hit3
            have HIT4 := Lib.hid hit4
            clear hit4 hit3
            go_wp2
            go_roundw
            case rel => exact ⟨1, by omega, HIT4.out, HI4, HB4, rfl⟩
            case measure => rw [HP4.out, HP3.out]; omega
          · have hp1 : p = 1 := by omega
            subst hp1
            have hn := Lib.run_next_end_at (P := Try.prog) wr wm.heap.size ⟨#[c]⟩ 1 0 hit3 (by show ¬ 1 < 1; omega)
            clear hit3
            go_wp2
            go_ret
            refine ⟨?_, HB3.out⟩
            have hend : ∀ x, s.data.toList[k]? = some x → x ≠ c := fun x hx e => by
              rw [getElem?_byte s k hlt] at hx
              exact heq ((Option.some.inj hx).trans e)
            rw [cutL_eq c s.data.toList k HC.out hend, ← Lib.extract_to_end, toB_data]
            rfl
    · have hk2 : k = s.size := by omega
      subst hk2
      have hn := Lib.run_next_end_at (P := Try.prog) wo w.heap.size s s.size 0 hit hlt
      clear hit
      go_wp2
      go_ret
      refine ⟨?_, HB.out⟩
      have hend : ∀ x, s.data.toList[s.size]? = some x → x ≠ c := fun x hx _ => by
        have := (List.getElem?_eq_some_iff.1 hx).1
        rw [Array.length_toList] at this
        exact absurd this (Nat.lt_irrefl _)
      rw [cutL_eq c s.data.toList s.size HC.out hend, List.drop_of_length_le (by rw [Array.length_toList]; exact Nat.le_refl _)]
      rfl
def isSign (c : UInt8) : Bool := c == 60 || c == 124 || c == 61 || c == 62
def runL (l : List UInt8) : Nat := match l with
  | [] => 0
  | c :: _ => if isSign c then l.length - (cutL c l).length else 0
theorem cutL_le (c : UInt8) (l : List UInt8) : (cutL c l).length ≤ l.length := by
  have := (List.dropWhile_sublist (l := l) (fun x => x == c)).length_le
  exact this
theorem runL_le (l : List UInt8) : runL l ≤ l.length := by
  unfold runL
  split
  · simp
  · split <;> omega
theorem sign_index (c : UInt8) : decide (0 ≤ Lib.indexByte [60, 124, 61, 62] c) = isSign c := by
  unfold isSign
  simp only [Lib.indexByte]
  by_cases h1 : c = 60
  · subst h1; decide
  · by_cases h2 : c = 124
    · subst h2; decide
    · by_cases h3 : c = 61
      · subst h3; decide
      · by_cases h4 : c = 62
        · subst h4; decide
        · simp [h1, h2, h3, h4, Ne.symm h1, Ne.symm h2, Ne.symm h3, Ne.symm h4]
set_option maxRecDepth 100000 in
set_option maxHeartbeats 2000000 in
theorem run_calls (s : ByteArray) (hsz : s.size ≤ 4000000000) (w : World) :
    Calls Try.prog 43 #[.string s] w fun e w' => e = .returned (.int .i64 (runL s.data.toList)) ∧ Below w.heap.size w w' := by
  by_cases h0 : s.size = 0
  · have hs : s = ⟨#[]⟩ := by
      have : s.data.toList = [] := List.eq_nil_of_length_eq_zero (by rw [Array.length_toList]; exact h0)
      rw [← toB_data s, this]; rfl
    subst hs
    go_enter Try.func43, Try.ntmps43
    go_wp2
    go_ret
    exact ⟨rfl, Below.refl _ _⟩
  · obtain ⟨c, t, hl⟩ : ∃ c t, s.data.toList = c :: t := by
      cases h : s.data.toList with
      | nil => exact absurd (by have := congrArg List.length h; rw [Array.length_toList] at this; exact this) h0
      | cons c t => exact ⟨c, t, rfl⟩
    have hex : s.extract 0 1 = ⟨#[c]⟩ := by
      rw [← toB_data (s.extract 0 1), Lib.extract_data, hl]; rfl
    have hne : (s.toList == ([] : List UInt8)) = false := by rw [Lib.toList_data, hl]; rfl
    have hne2 : s.toList.isEmpty = false := by rw [Lib.toList_data, hl]; rfl
    have HL := Lib.hid hl
    clear hl
    have hcon := Try.strings_Contains_one ⟨#[60, 124, 61, 62]⟩ c w
    rw [show (⟨#[60, 124, 61, 62]⟩ : ByteArray).data.toList = [60, 124, 61, 62] from rfl, sign_index] at hcon
    have hsz1 : (1 : Int) ≤ s.size := by omega
    by_cases hsg : isSign c = true
    · rw [hsg] at hcon
      have hc : c.toNat < 128 := by
        simp only [isSign, Bool.or_eq_true, beq_iff_eq] at hsg
        rcases hsg with ((rfl | rfl) | rfl) | rfl <;> decide
      have HS := Lib.hid hsg
      have HCON := Lib.hid hcon
      have hcut := cutLeft_calls s hsz c hc w
      have HCUT := Lib.hid hcut
      clear hsg hcon hcut
      go_enter Try.func43, Try.ntmps43
      go_wp2_with (first | (go_at_call 84; refine HCON.out.mono ?_; rintro e w' ⟨rfl, rfl⟩) | (go_at_call 85; refine HCUT.out.mono ?_; rintro e w' ⟨rfl, hb⟩))
      go_ret
      refine ⟨?_, hb⟩
      have e : wrap64 ((s.size : Int) - (cutL c s.data.toList).length) = ((s.data.toList.length - (cutL c s.data.toList).length : Nat) : Int) := by
        have := cutL_le c s.data.toList
        have h2 : s.data.toList.length = s.size := by rw [Array.length_toList]; rfl
        unfold wrap64; omega
      have HE := HS.out
      unfold runL
      rw [e]
      simp only [HL.out, HE, if_true]
      rfl
    · have hsg0 : isSign c = false := by simpa using hsg
      rw [hsg0] at hcon
      have HS := Lib.hid hsg0
      have HCON := Lib.hid hcon
      clear hsg hsg0 hcon
      go_enter Try.func43, Try.ntmps43
      go_wp2_with (first | (go_at_call 84; refine HCON.out.mono ?_; rintro e w' ⟨rfl, rfl⟩))
      go_ret
      refine ⟨?_, Below.refl _ _⟩
      have HE := HS.out
      unfold runL
      simp only [HL.out, HE]
      rfl
#print axioms run_calls
end Go.Proofs.Ytfiamddinkokbaa
end

section
set_option linter.unusedVariables false
set_option linter.unusedSimpArgs false
namespace Go.Proofs.Ytfiamddinkokbaa
open Go.RowKit Go.Shelf Go.Proofs.YtfiamddinkokbaaW.PrintWords
set_option linter.unusedVariables false
theorem ext_split (a0 : ByteArray) (r : List ByteArray) (w : World) (h : (if a0.size ≤ 4000000000 then some (splitB a0) else none) = some r) :
    Calls Try.prog 29 #[.string a0] w fun e w' => ∃ v0_ : Value, e = .returned (v0_) ∧ Kd.R Kd.string 9 w' w.heap.size (fun _ => True) v0_ r ∧ Below w.heap.size w w' := by
  by_cases hs : a0.size ≤ 4000000000
  · rw [if_pos hs] at h
    obtain rfl := Option.some.inj h
    refine (split_calls a0 hs w).mono ?_
    rintro e w' ⟨v, rfl, hr, hb⟩
    exact ⟨v, rfl, Kd.R_of_own hr (fun _ _ => trivial), hb⟩
  · rw [if_neg hs] at h; cases h
theorem ext_run (a0 : ByteArray) (r : Int) (w : World) (h : (if a0.size ≤ 4000000000 then some ((runL a0.data.toList : Nat) : Int) else none) = some r) :
    Calls Try.prog 43 #[.string a0] w fun e w' => e = .returned (.int .i64 r) ∧ Below w.heap.size w w' := by
  by_cases hs : a0.size ≤ 4000000000
  · rw [if_pos hs] at h
    obtain rfl := Option.some.inj h
    exact run_calls a0 hs w
  · rw [if_neg hs] at h; cases h
theorem one_byte (a : ByteArray) (h : a.size = 1) : a = ⟨#[a.data.toList.headD 0]⟩ := by
  have hl : a.data.toList.length = 1 := by rw [Array.length_toList]; exact h
  obtain ⟨c, hc⟩ : ∃ c, a.data.toList = [c] := List.length_eq_one_iff.1 hl
  rw [← toB_data a, hc]; rfl
theorem ext_contains (a0 a1 : ByteArray) (r : Bool) (w : World) (h : (if a1.size = 1 then some (decide (0 ≤ Lib.indexByte a0.data.toList (a1.data.toList.headD 0))) else none) = some r) :
    Calls Try.prog 84 #[.string a0, .string a1] w fun e w' => e = .returned (.bool r) ∧ Drawn0 w w' := by
  by_cases hs : a1.size = 1
  · rw [if_pos hs] at h
    obtain rfl := Option.some.inj h
    have := Try.strings_Contains_one a0 (a1.data.toList.headD 0) w
    rw [← one_byte a1 hs] at this
    refine this.mono ?_
    rintro e w' ⟨rfl, rfl⟩
    exact ⟨rfl, Drawn0.refl _⟩
  · rw [if_neg hs] at h; cases h
end Go.Proofs.Ytfiamddinkokbaa
end

section
set_option linter.unusedVariables false
set_option linter.unusedSimpArgs false
namespace Go.Proofs.Ytfiamddinkokbaa
open Go.RowKit Go.Shelf Go.Maps Go.Proofs.YtfiamddinkokbaaW.PrintWords
set_option linter.unusedVariables false
def numStep (kn : List (List UInt8)) (s : ByteArray) : List (List UInt8) := if s.data.toList ∈ kn then kn else kn ++ [s.data.toList]
def numOf (kn : List (List UInt8)) (s : ByteArray) : Int := (kn.idxOf s.data.toList : Nat)
def numRow : List (List UInt8) → List ByteArray → List Int
  | _, [] => []
  | kn, s :: t => numOf kn s :: numRow (numStep kn s) t
def knRow (kn : List (List UInt8)) (l : List ByteArray) : List (List UInt8) := l.foldl numStep kn
def numAll : List (List UInt8) → List (List ByteArray) → List (List Int)
  | _, [] => []
  | kn, f :: t => numRow kn f :: numAll (knRow kn f) t
def knAll (kn : List (List UInt8)) (fs : List (List ByteArray)) : List (List UInt8) := fs.foldl knRow kn
def numberB (fs : List (List ByteArray)) : List (List Int) := numAll [] fs
theorem numRow_snoc (kn : List (List UInt8)) (l : List ByteArray) (s : ByteArray) : numRow kn (l ++ [s]) = numRow kn l ++ [numOf (knRow kn l) s] := by
  induction l generalizing kn with
  | nil => rfl
  | cons a t ih => simp only [List.cons_append, numRow, knRow, List.foldl_cons]; rw [ih]; rfl
theorem knRow_snoc (kn : List (List UInt8)) (l : List ByteArray) (s : ByteArray) : knRow kn (l ++ [s]) = numStep (knRow kn l) s := by simp [knRow]
theorem numAll_snoc (kn : List (List UInt8)) (fs : List (List ByteArray)) (f : List ByteArray) : numAll kn (fs ++ [f]) = numAll kn fs ++ [numRow (knAll kn fs) f] := by
  induction fs generalizing kn with
  | nil => rfl
  | cons a t ih => simp only [List.cons_append, numAll, knAll, List.foldl_cons]; rw [ih]; rfl
theorem knAll_snoc (kn : List (List UInt8)) (fs : List (List ByteArray)) (f : List ByteArray) : knAll kn (fs ++ [f]) = knRow (knAll kn fs) f := by simp [knAll]
theorem numRow_length (kn : List (List UInt8)) (l : List ByteArray) : (numRow kn l).length = l.length := by
  induction l generalizing kn with
  | nil => rfl
  | cons a t ih => simp [numRow, ih]
theorem numAll_length (kn : List (List UInt8)) (fs : List (List ByteArray)) : (numAll kn fs).length = fs.length := by
  induction fs generalizing kn with
  | nil => rfl
  | cons a t ih => simp [numAll, ih]
def Knows (D : DataW Unit) (kn : List (List UInt8)) : Prop :=
  Maps.Tidy D ∧ Maps.size D = kn.length ∧ ∀ s : List UInt8, Maps.has D (.string s) = decide (s ∈ kn) ∧ (s ∈ kn → D.atKey (.string s) (.lit (.int .i64 0)) = .lit (.int .i64 (kn.idxOf s : Nat)))
theorem knows_nil : Knows (.map []) [] := ⟨Maps.tidy_empty, rfl, fun s => ⟨by simp [Maps.has], fun h => by simp at h⟩⟩
theorem knows_put {D : DataW Unit} {kn : List (List UInt8)} (h : Knows D kn) (s : List UInt8) (hs : s ∉ kn) : Knows (D.put (.string s) (.lit (.int .i64 (kn.length : Nat)))) (kn ++ [s]) := by
  obtain ⟨h1, h2, h3⟩ := h
  have hh := (h3 s).1
  rw [decide_eq_false hs] at hh
  have hk : WideAt.IsKeyLit (.string s) := trivial
  refine ⟨h1.put hk _, ?_, fun t => ?_⟩
  · rw [Maps.size_put h1, hh, h2]; simp
  · by_cases ht : t = s
    · subst ht
      refine ⟨?_, fun _ => ?_⟩
      · rw [Maps.has_put_same h1.isMap hk]; simp
      · rw [Maps.atKey_put_same h1.isMap hk]
        rw [List.idxOf_append, if_neg hs]; simp
    · have hne : (Lit.string t) ≠ .string s := fun e => ht (by injection e)
      refine ⟨?_, fun hm => ?_⟩
      · rw [Maps.has_put_other hne, (h3 t).1]; simp [ht]
      · rw [Maps.atKey_put_other hne]
        have hm' : t ∈ kn := by simpa [ht] using hm
        rw [(h3 t).2 hm', List.idxOf_append, if_pos hm']
theorem num_keyed : Maps.Keyed Try.prog 9 := Maps.string_keyed Try.underlying9
theorem num_zero (w : World) : (zeroValue 3).run Try.prog w = .ok (.int .i64 0) w := by kernel_rfl
theorem num_info3 : (Try.prog.info? 3).map (fun i => (i.zero, i.size, i.bytes)) = some (some (.int .i64 0), 1, 8) := by kernel_rfl
theorem num_info50 : (Try.prog.info? 50).map (fun i => (i.zero, i.size, i.bytes)) = some (some (.slice none 0 0), 1, 24) := by kernel_rfl
def total (fs : List (List ByteArray)) : Nat := (fs.map List.length).sum
set_option maxRecDepth 100000 in
set_option maxHeartbeats 4000000 in
theorem number_calls (A0 : Option Addr) (c0 : Nat) (l0 : List (List ByteArray)) (w : World) (hr0 : Kd.C (Kd.slice 9 Kd.string) w A0 l0.length l0) (hc0 : l0.length ≤ c0) (hsz : ∀ f ∈ l0, ∀ s ∈ f, s.size ≤ 4000000000) (ht : total l0 ≤ 4000000000) (hl0 : l0.length ≤ 4000000000) :
    Calls Try.prog 38 #[.slice A0 l0.length c0] w fun e w' => ∃ v0_ : Value, e = .returned (v0_) ∧ Kd.S (Kd.slice 3 (Kd.int .i64)) 50 w' w.heap.size (fun _ => True) v0_ (numberB l0) ∧ Below w.heap.size w w' := by
  have hmm := @run_makeMap Try.prog
  go_enter Try.func38, Try.ntmps38
  go_wp2
  go_loopw [4, 15] (fun v4 v15 wr => ∃ i : Nat, i ≤ l0.length ∧ v15 = .int .i64 i ∧ Aside0 (Kd.S (Kd.slice 3 (Kd.int .i64)) 50 wr w.heap.size (fun k => k ≠ w.heap.size) v4 (numAll [] (l0.take i))) ∧ Aside0 (∃ D : DataW Unit, wr.ownsMap Try.prog 9 (plainElem Try.prog 3) w.heap.size (total (l0.take i)) D ∧ Knows D (knAll [] (l0.take i))) ∧ Aside0 (Below w.heap.size w wr))
    (fun _ v15 _ => l0.length - (intOf v15).toNat)
  case atStart =>
    exact ⟨0, Nat.zero_le _, rfl, ⟨Kd.S_nil _ _ _ _ _⟩, ⟨.map [], World.ownsMap_made _ _ _ _, knows_nil⟩, ⟨(Below.refl _ _).alloc (Nat.le_refl _) _⟩⟩
  case round =>
    obtain ⟨i, hi, rfl, HS, HM, HB⟩ := hrel
    by_cases hlt : i < l0.length
    · obtain ⟨f, hf⟩ : ∃ f, l0[i]? = some f := ⟨_, List.getElem?_eq_getElem hlt⟩
      obtain ⟨ad, rfl, hc⟩ := hr0.2.2 (by omega)
      obtain ⟨c, hcl, hck, hcell⟩ := hc i f hf
      obtain ⟨Ai, ci, rfl, hfc, hfr⟩ := hck
      have hcw : w.cell? (ad.add i) = some (.slice Ai f.length ci) := by
        have := hcell 0 _ rfl
        simpa [show (Kd.slice 9 Kd.string).sz = 1 from rfl] using this
      have hcr : wr.cell? (ad.add i) = some (.slice Ai f.length ci) := (HB.out.cell (World.block_lt_of_cell? w _ hcw)).trans hcw
      have htk : l0.take (i + 1) = l0.take i ++ [f] := by rw [List.take_add_one, hf]; rfl
      have hft : total (l0.take i) + f.length ≤ total l0 := by
        have h1 : total (l0.take (i + 1)) = total (l0.take i) + f.length := by rw [htk]; simp [total]
        have h2 : total (l0.take (i + 1)) + total (l0.drop (i + 1)) = total l0 := by
          unfold total; rw [← List.sum_append, ← List.map_append, List.take_append_drop]
        omega
      have HTK := Lib.hid htk
      have HC := Lib.hid hc
      have HF := Lib.hid hf
      have HCELL := Lib.hid hcell
      have HFR := Aside0.mk hfr
      have HW := Aside0.mk hcw
      have hl1 : ((l0.take i).map List.length).sum = total (l0.take i) := rfl
      clear htk hc hf hcell hfr hcw hl1
      go_wp2
      obtain ⟨wo, rfl⟩ : ∃ wo : World, wo = wr := ⟨_, rfl⟩
      go_loopw [7, 21] (fun v7 v21 wr => ∃ j : Nat, j ≤ f.length ∧ v21 = .int .i64 j ∧ Aside0 (Kd.R (Kd.int .i64) 3 wr w.heap.size (fun k => k ≠ w.heap.size) v7 (numRow (knAll [] (l0.take i)) (f.take j))) ∧
          Aside0 (Kd.S (Kd.slice 3 (Kd.int .i64)) 50 wr w.heap.size (fun k => k ≠ w.heap.size ∧ some k ≠ v7.ownBlock) u4 (numAll [] (l0.take i))) ∧
          Aside0 (∃ D : DataW Unit, wr.ownsMap Try.prog 9 (plainElem Try.prog 3) w.heap.size (total (l0.take i) + j) D ∧ Knows D (knRow (knAll [] (l0.take i)) (f.take j))) ∧ Aside0 (Below w.heap.size w wr))
        (fun _ v21 _ => f.length - (intOf v21).toNat)
      case atStart =>
        exact ⟨0, Nat.zero_le _, rfl, ⟨Kd.R_nil _ _ _ _ _⟩, ⟨Kd.S_mono HS.out (fun k hk => ⟨hk, by simp [Value.ownBlock]⟩)⟩, HM, HB⟩
      case round =>
        obtain ⟨j, hj, rfl, HR, HS2, HM2, HB2⟩ := hrel
        by_cases hjt : j < f.length
        · obtain ⟨s, hs⟩ : ∃ s, f[j]? = some s := ⟨_, List.getElem?_eq_getElem hjt⟩
          have hss : s.size ≤ 4000000000 := hsz f (List.mem_of_getElem? HF.out) s (List.mem_of_getElem? hs)
          obtain ⟨adi, rfl, hci⟩ := HFR.out.2.2 (by omega)
          obtain ⟨ci2, _, hck2, hcell2⟩ := hci j s hs
          have hck3 : ci2 = [Value.string s] := hck2
          subst hck3
          have hsw : w.cell? (adi.add j) = some (.string s) := by
            have := hcell2 0 _ rfl
            simpa [show (Kd.string).sz = 1 from rfl] using this
          have hsr : wr.cell? (adi.add j) = some (.string s) := (HB2.out.cell (World.block_lt_of_cell? w _ hsw)).trans hsw
          have hcr2 : wr.cell? (ad.add i) = some (.slice (some adi) f.length ci) := (HB2.out.cell (World.block_lt_of_cell? w _ HW.out)).trans HW.out
          have htj : f.take (j + 1) = f.take j ++ [s] := by rw [List.take_add_one, hs]; rfl
          have HTJ := Lib.hid htj
          have HSS := Lib.hid hs
          obtain ⟨D, hown, hkn⟩ := HM2.out
          have HKN := Aside0.mk hkn
          have hkey := WideMaps.keyOf_string_mk (P := Try.prog) Try.underlying9 (s := s) (by unfold maxLen; omega)
          have hnew : w.heap.size < wr.heap.size := hown.lt
          by_cases hm : s.data.toList ∈ knRow (knAll [] (l0.take i)) (f.take j)
          · have hhas : Maps.has D (.string s.data.toList) = true := by rw [(hkn.2.2 _).1]; exact decide_eq_true hm
            have HAT := Lib.hid ((hkn.2.2 _).2 hm)
            have HMEM := Lib.hid hm
            clear htj hs hsw hci hcell2 hck2 hkn hm
            have hne : some w.heap.size ≠ u7.ownBlock := fun e => HR.out.1 _ e.symm rfl
            have hrl : (numRow (knAll [] (l0.take i)) (f.take j)).length ≤ 4000000000 := by rw [numRow_length, List.length_take]; omega
            go_wp2_with (first | (at_lookup; refine wpList_lookup_own_ok_int _ rfl _ _ 119 rfl 9 3 .i64 num_keyed Try.underlying119 Try.underlying3 (num_zero _) w.heap.size _ D rfl hown _ _ rfl hkey ?_; intro c hat hwc; rw [HAT.out] at hat; injection hat with hat; injection hat with _ hat; have HCC := Lib.hid hat; clear hat hwc) | (at_builtin; refine Kd.R_append (Kd.int .i64) (w0 := w) w.heap.size rfl (.tmp 38) (.tmp 40) 50 3 (.int .i64 0) 8 rfl Try.underlying50 num_info3 rfl (by decide) (by omega) u7 (numRow (knAll [] (l0.take i)) (f.take j)) c [.int .i64 c] (fun k => k ≠ w.heap.size) (fun _ => False) rfl rfl rfl (fun _ hk => hk.elim) (fun k hk => by omega) HR.out HB2.out HB2.out.size (by omega) ?_; intro v1 w1 ho hb hg hat; have HO := Aside0.mk ho; have HB3 := Aside0.mk hb; have HS3 := Aside0.mk (Kd.S_after HS2.out hg hat); have HM3 := Aside0.mk (hown.kept hg hne); clear ho hb hg hat))
            go_roundw
            case rel =>
              refine ⟨j + 1, by omega, by go_num, ⟨?_⟩, HS3, ⟨D, ?_, ?_⟩, HB3⟩
              · rw [HTJ.out, numRow_snoc, numOf, HCC.out]; exact HO.out
              · exact HM3.out.mono (by omega)
              · rw [HTJ.out, knRow_snoc, numStep, if_pos HMEM.out]; exact HKN.out
            case measure => simp [intOf]; omega
          · have hhas : Maps.has D (.string s.data.toList) = false := by rw [(hkn.2.2 _).1]; exact decide_eq_false hm
            have hsize := hkn.2.1
            have hput := Aside0.mk (knows_put hkn _ hm)
            have HMEM := Lib.hid hm
            have hknl : (knRow (knAll [] (l0.take i)) (f.take j)).length ≤ total (l0.take i) + j := by
              rw [← hsize]; exact hown.size_le
            have hszb : Maps.size D ≤ 4000000000 := by omega
            have HSZ := Lib.hid hsize
            have hwf : (Lit.int .i64 (Maps.size D : Int)).wf = true := WalkArith.wf_i64 (by omega)
            clear htj hs hsw hci hcell2 hck2 hkn hm hsize
            have hne : some w.heap.size ≠ u7.ownBlock := fun e => HR.out.1 _ e.symm rfl
            have hrl : (numRow (knAll [] (l0.take i)) (f.take j)).length ≤ 4000000000 := by rw [numRow_length, List.length_take]; omega
            go_wp2_with (first | (at_lookup; refine wpList_lookup_own_ok_int _ rfl _ _ 119 rfl 9 3 .i64 num_keyed Try.underlying119 Try.underlying3 (num_zero _) w.heap.size _ D rfl hown _ _ rfl hkey ?_; intro c hat hwc; clear hat hwc) | (at_len; refine wpList_len_own _ rfl _ 119 rfl 9 3 Try.underlying119 (plainElem Try.prog 3) w.heap.size _ D rfl hown ?_) | (at_mapUpdate; refine wpList_mapUpdate_own _ rfl _ _ _ 119 rfl 9 3 num_keyed Try.underlying119 (plainElem Try.prog 3) w.heap.size _ D rfl hown (by unfold maxLen; omega) _ _ _ rfl rfl hkey _ [] (plainElem_int Try.underlying3 hwf) ?_; intro w5 hown5 hgrow5; have HM5 := Aside0.mk hown5; have HR5 := Aside0.mk (Kd.R_grown HR.out hgrow5 (fun k hk e => hk (Option.some.inj e))); have HS5 := Aside0.mk (Kd.S_grown HS2.out hgrow5 (fun k hk e => hk.1 (Option.some.inj e))); have HB5 := Aside0.mk (HB2.out.grown hgrow5 HB2.out.size (fun k e => by cases e; exact Nat.le_refl _)); have hnew5 := hown5.lt; clear hown5 hgrow5) | (at_builtin; refine Kd.R_append (Kd.int .i64) (w0 := w) w.heap.size rfl (.tmp 38) (.tmp 40) 50 3 (.int .i64 0) 8 rfl Try.underlying50 num_info3 rfl (by decide) (by omega) u7 (numRow (knAll [] (l0.take i)) (f.take j)) (Maps.size D : Int) [.int .i64 (Maps.size D : Int)] (fun k => k ≠ w.heap.size) (fun _ => False) rfl rfl rfl (fun _ hk => hk.elim) (fun k hk => by omega) HR5.out HB5.out HB5.out.size (by omega) ?_; intro v1 w1 ho hb hg hat; have HO := Aside0.mk ho; have HB3 := Aside0.mk hb; have HS3 := Aside0.mk (Kd.S_after HS5.out hg hat); have HM3 := Aside0.mk (HM5.out.kept hg hne); clear ho hb hg hat))
            go_roundw
            case rel =>
              refine ⟨j + 1, by omega, by go_num, ⟨?_⟩, HS3, ⟨_, HM3.out, ?_⟩, HB3⟩
              · rw [HTJ.out, numRow_snoc, numOf, List.idxOf_eq_length HMEM.out, ← HSZ.out]; exact HO.out
              · rw [HTJ.out, knRow_snoc, numStep, if_neg HMEM.out, HSZ.out]; exact hput.out
            case measure => simp [intOf]; omega
        · have hjf : j = f.length := by omega
          subst hjf
          rw [List.take_length] at HR HM2
          obtain ⟨Ao, co, eo⟩ := Kd.R_slice HR.out
          subst eo
          obtain ⟨D, hown, hkn⟩ := HM2.out
          have HKN := Aside0.mk hkn
          have hne : some w.heap.size ≠ u4.ownBlock := fun e => ((Kd.S_R HS2.out).1 _ e.symm).1 rfl
          have hol : (numAll [] (l0.take i)).length ≤ 4000000000 := by rw [numAll_length, List.length_take]; omega
          have HP := Aside0.mk (show (Kd.slice 3 (Kd.int .i64)).M wr w.heap.size (fun k => some k = (Value.slice Ao (numRow (knAll [] (l0.take i)) f).length co).ownBlock) (numRow (knAll [] (l0.take i)) f) [.slice Ao (numRow (knAll [] (l0.take i)) f).length co] from ⟨_, rfl, fun k hk => hk.symm, HR.out.2⟩)
          have HK := Aside0.mk (show ∀ k, some k = (Value.slice Ao (numRow (knAll [] (l0.take i)) f).length co).ownBlock → k ≠ w.heap.size ∧ some k ≠ u4.ownBlock from fun k hk => ⟨HR.out.1 k hk.symm, fun e => ((Kd.S_R HS2.out).1 k e.symm).2 hk⟩)
          have HO5 := Aside0.mk (Kd.S_mono HS2.out (ok' := fun k => k ≠ w.heap.size ∧ ¬ (some k = (Value.slice Ao (numRow (knAll [] (l0.take i)) f).length co).ownBlock)) (fun k hk => ⟨hk.1, fun e => hk.2 e⟩))
          have hnew : w.heap.size < wr.heap.size := hown.lt
          clear hkn
          go_wp2_with (at_builtin; refine Kd.S_append (Kd.slice 3 (Kd.int .i64)) (w0 := w) w.heap.size rfl (.tmp 43) (.tmp 45) 43 50 (.slice none 0 0) 24 rfl Try.underlying43 num_info50 rfl (by decide) (by omega) u4 (numAll [] (l0.take i)) (numRow (knAll [] (l0.take i)) f) [.slice Ao (numRow (knAll [] (l0.take i)) f).length co] (fun k => k ≠ w.heap.size) (fun k => some k = (Value.slice Ao (numRow (knAll [] (l0.take i)) f).length co).ownBlock) rfl rfl HP.out HK.out (fun k hk => by omega) HO5.out HB2.out HB2.out.size (by omega) ?_; intro v1 w1 ho hb hg hat; have HO := Aside0.mk ho; have HB3 := Aside0.mk hb; have HM3 := Aside0.mk (hown.kept hg hne); clear ho hb hg hat)
          go_roundw
          case rel =>
            refine ⟨i + 1, by omega, by go_num, ⟨?_⟩, ⟨D, ?_, ?_⟩, HB3⟩
            · rw [HTK.out, numAll_snoc]; exact HO.out
            · rw [HTK.out]; simpa [total] using HM3.out
            · rw [HTK.out, knAll_snoc]; exact HKN.out
          case measure => simp [intOf]; omega
    · have hil : i = l0.length := by omega
      subst hil
      rw [List.take_length] at HS HM
      go_wp2
      go_ret
      exact ⟨_, rfl, Kd.S_mono HS.out (fun _ _ => trivial), HB.out⟩
#print axioms number_calls
end Go.Proofs.Ytfiamddinkokbaa
end

section
set_option linter.unusedVariables false
set_option linter.unusedSimpArgs false
namespace Go.Proofs.Ytfiamddinkokbaa.F
open Go.RowKit Go.Proofs.YtfiamddinkokbaaW.PrintWords Go.Proofs.YtfiamddinkokbaaW.PrintLast Go.Proofs.YtfiamddinkokbaaW.PrintMore
attribute [local go_sem] max2_int min2_int max_two min_two max_three min_three max_four min_four
set_option linter.unusedVariables false
set_option linter.unusedSimpArgs false
def errW : Option Int → Value
  | none => .nilIface
  | some c => .iface 0 (.int .i64 c)
theorem errW_none : errW none = .nilIface := rfl
theorem errW_some (c : Int) : errW (some c) = .iface 0 (.int .i64 c) := rfl
def rd_L1 (xs : List (List ByteArray)) (i : Int) : (List ByteArray) := xs.getD i.toNat ([] : List ByteArray)
theorem at_L1 {w : World} {A : Option Addr} {n : Nat} {xs : List (List ByteArray)} (h : Kd.C (Kd.slice 9 Kd.string) w A n xs) (i : Int) (h0 : 0 ≤ i) (h1 : i < n) : ∃ ad A0 c0, A = some ad ∧ w.cell? (ad.add i.toNat) = some (.slice A0 (rd_L1 xs i).length c0) ∧ (rd_L1 xs i).length ≤ c0 ∧ Kd.string.C w A0 (rd_L1 xs i).length (rd_L1 xs i) := by
  obtain ⟨ad, c, e, _, hK, hc0⟩ := Kd.C_get h ([] : List ByteArray) i h0 h1
  have hc : ∀ j u, c[j]? = some u → w.cell? (ad.add (i.toNat * 1 + j)) = some u := hc0
  obtain ⟨A0, c0, rfl, l0, g0⟩ := hK
  exact ⟨ad, A0, c0, e, by have hq := hc 0 _ rfl; rwa [Nat.mul_one, Nat.add_zero] at hq, l0, g0⟩
structure S84 where
  f0 : ByteArray
  f1 : ByteArray
  f2 : ByteArray
def z84 : S84 := ⟨(⟨#[]⟩ : ByteArray), (⟨#[]⟩ : ByteArray), (⟨#[]⟩ : ByteArray)⟩
def k84 : Kd S84 := Kd.iso (Kd.pair Kd.string (Kd.pair Kd.string Kd.string)) (fun x : S84 => (x.f0, x.f1, x.f2))
theorem k84_open {w : World} {x : S84} {cs : List Value} (h : k84.K w x cs) : cs = [.string x.f0, .string x.f1, .string x.f2] := by
  obtain ⟨_, _, rfl, rfl, ⟨_, _, rfl, rfl, rfl⟩⟩ := h
  exact rfl
theorem k84_mkM (w : World) (base : Nat) (ok : Nat → Prop) (x : S84)  : k84.M w base ok x [.string x.f0, .string x.f1, .string x.f2] := ⟨[.string x.f0], [.string x.f1, .string x.f2], rfl, rfl, ⟨[.string x.f1], [.string x.f2], rfl, rfl, rfl⟩⟩
structure S106 where
  f0 : S84
  f1 : Bool
  f2 : ByteArray
  f3 : ByteArray
  f4 : ByteArray
  f5 : ByteArray
  f6 : Bool
def z106 : S106 := ⟨z84, false, (⟨#[]⟩ : ByteArray), (⟨#[]⟩ : ByteArray), (⟨#[]⟩ : ByteArray), (⟨#[]⟩ : ByteArray), false⟩
def k106 : Kd S106 := Kd.iso (Kd.pair k84 (Kd.pair Kd.bool (Kd.pair Kd.string (Kd.pair Kd.string (Kd.pair Kd.string (Kd.pair Kd.string Kd.bool)))))) (fun x : S106 => (x.f0, x.f1, x.f2, x.f3, x.f4, x.f5, x.f6))
theorem k106_open {w : World} {x : S106} {cs : List Value} (h : k106.K w x cs) : cs = [.string x.f0.f0, .string x.f0.f1, .string x.f0.f2, .bool x.f1, .string x.f2, .string x.f3, .string x.f4, .string x.f5, .bool x.f6] := by
  obtain ⟨_, _, rfl, s0, ⟨_, _, rfl, rfl, ⟨_, _, rfl, rfl, ⟨_, _, rfl, rfl, ⟨_, _, rfl, rfl, ⟨_, _, rfl, rfl, rfl⟩⟩⟩⟩⟩⟩ := h
  obtain rfl := k84_open s0
  exact rfl
theorem k106_mkM (w : World) (base : Nat) (ok : Nat → Prop) (x : S106)  : k106.M w base ok x [.string x.f0.f0, .string x.f0.f1, .string x.f0.f2, .bool x.f1, .string x.f2, .string x.f3, .string x.f4, .string x.f5, .bool x.f6] := ⟨[.string x.f0.f0, .string x.f0.f1, .string x.f0.f2], [.bool x.f1, .string x.f2, .string x.f3, .string x.f4, .string x.f5, .bool x.f6], rfl, (k84_mkM w base ok x.f0 ), ⟨[.bool x.f1], [.string x.f2, .string x.f3, .string x.f4, .string x.f5, .bool x.f6], rfl, rfl, ⟨[.string x.f2], [.string x.f3, .string x.f4, .string x.f5, .bool x.f6], rfl, rfl, ⟨[.string x.f3], [.string x.f4, .string x.f5, .bool x.f6], rfl, rfl, ⟨[.string x.f4], [.string x.f5, .bool x.f6], rfl, rfl, ⟨[.string x.f5], [.bool x.f6], rfl, rfl, rfl⟩⟩⟩⟩⟩⟩
def rd_T106 (xs : List S106) (i : Int) : S106 := xs.getD i.toNat z106
theorem at_T106 {w : World} {A : Option Addr} {n : Nat} {xs : List S106} (h : Kd.C k106 w A n xs) (i : Int) (h0 : 0 ≤ i) (h1 : i < n) : ∃ ad , A = some ad ∧ w.cell? (ad.add (i.toNat * 9)) = some (.string (rd_T106 xs i).f0.f0) ∧ w.cell? ⟨(ad.add (i.toNat * 9)).block, (ad.add (i.toNat * 9)).off + 1, none⟩ = some (.string (rd_T106 xs i).f0.f1) ∧ w.cell? ⟨(ad.add (i.toNat * 9)).block, (ad.add (i.toNat * 9)).off + 2, none⟩ = some (.string (rd_T106 xs i).f0.f2) ∧ w.cell? ⟨(ad.add (i.toNat * 9)).block, (ad.add (i.toNat * 9)).off + 3, none⟩ = some (.bool (rd_T106 xs i).f1) ∧ w.cell? ⟨(ad.add (i.toNat * 9)).block, (ad.add (i.toNat * 9)).off + 4, none⟩ = some (.string (rd_T106 xs i).f2) ∧ w.cell? ⟨(ad.add (i.toNat * 9)).block, (ad.add (i.toNat * 9)).off + 5, none⟩ = some (.string (rd_T106 xs i).f3) ∧ w.cell? ⟨(ad.add (i.toNat * 9)).block, (ad.add (i.toNat * 9)).off + 6, none⟩ = some (.string (rd_T106 xs i).f4) ∧ w.cell? ⟨(ad.add (i.toNat * 9)).block, (ad.add (i.toNat * 9)).off + 7, none⟩ = some (.string (rd_T106 xs i).f5) ∧ w.cell? ⟨(ad.add (i.toNat * 9)).block, (ad.add (i.toNat * 9)).off + 8, none⟩ = some (.bool (rd_T106 xs i).f6) := by
  obtain ⟨ad, c, e, _, hK, hc0⟩ := Kd.C_get h z106 i h0 h1
  have hc : ∀ j u, c[j]? = some u → w.cell? (ad.add (i.toNat * 9 + j)) = some u := hc0
  obtain rfl := k106_open hK
  exact ⟨ad, e, hc 0 _ rfl, by rw [← add_field _ _ 1 (by omega)]; exact hc 1 _ rfl, by rw [← add_field _ _ 2 (by omega)]; exact hc 2 _ rfl, by rw [← add_field _ _ 3 (by omega)]; exact hc 3 _ rfl, by rw [← add_field _ _ 4 (by omega)]; exact hc 4 _ rfl, by rw [← add_field _ _ 5 (by omega)]; exact hc 5 _ rfl, by rw [← add_field _ _ 6 (by omega)]; exact hc 6 _ rfl, by rw [← add_field _ _ 7 (by omega)]; exact hc 7 _ rfl, by rw [← add_field _ _ 8 (by omega)]; exact hc 8 _ rfl⟩
structure S109 where
  f0 : ByteArray
  f1 : ByteArray
  f2 : ByteArray
  f3 : Bool
  f4 : ByteArray
  f5 : ByteArray
  f6 : ByteArray
  f7 : ByteArray
  f8 : Bool
def z109 : S109 := ⟨(⟨#[]⟩ : ByteArray), (⟨#[]⟩ : ByteArray), (⟨#[]⟩ : ByteArray), false, (⟨#[]⟩ : ByteArray), (⟨#[]⟩ : ByteArray), (⟨#[]⟩ : ByteArray), (⟨#[]⟩ : ByteArray), false⟩
end Go.Proofs.Ytfiamddinkokbaa.F
end

section
set_option linter.unusedVariables false
set_option linter.unusedSimpArgs false
namespace Go.Proofs.Ytfiamddinkokbaa.F
open Go.RowKit Go.Proofs.YtfiamddinkokbaaW.PrintWords Go.Proofs.YtfiamddinkokbaaW.PrintLast Go.Proofs.YtfiamddinkokbaaW.PrintMore
attribute [local go_sem] max2_int min2_int max_two min_two max_three min_three max_four min_four
set_option linter.unusedVariables false
set_option linter.unusedSimpArgs false
end Go.Proofs.Ytfiamddinkokbaa.F
end

section
set_option linter.unusedVariables false
set_option linter.unusedSimpArgs false
namespace Go.Proofs.Ytfiamddinkokbaa.F
open Go.RowKit Go.Proofs.YtfiamddinkokbaaW.PrintWords Go.Proofs.YtfiamddinkokbaaW.PrintLast Go.Proofs.YtfiamddinkokbaaW.PrintMore
attribute [local go_sem] max2_int min2_int max_two min_two max_three min_three max_four min_four
set_option linter.unusedVariables false
set_option linter.unusedSimpArgs false
end Go.Proofs.Ytfiamddinkokbaa.F
end

section
set_option linter.unusedVariables false
set_option linter.unusedSimpArgs false
namespace Go.Proofs.Ytfiamddinkokbaa.F
open Go.RowKit Go.Proofs.YtfiamddinkokbaaW.PrintWords Go.Proofs.YtfiamddinkokbaaW.PrintLast Go.Proofs.YtfiamddinkokbaaW.PrintMore
attribute [local go_sem] max2_int min2_int max_two min_two max_three min_three max_four min_four
set_option linter.unusedVariables false
set_option linter.unusedSimpArgs false
end Go.Proofs.Ytfiamddinkokbaa.F
end

section
set_option linter.unusedVariables false
set_option linter.unusedSimpArgs false
namespace Go.Proofs.Ytfiamddinkokbaa.F
open Go.RowKit Go.Proofs.YtfiamddinkokbaaW.PrintWords Go.Proofs.YtfiamddinkokbaaW.PrintLast Go.Proofs.YtfiamddinkokbaaW.PrintMore
attribute [local go_sem] max2_int min2_int max_two min_two max_three min_three max_four min_four
set_option linter.unusedVariables false
set_option linter.unusedSimpArgs false
def lines_Run.f (a0 : ByteArray) : Option Int := if a0.size ≤ 4000000000 then some ((runL a0.data.toList : Nat) : Int) else none
theorem lines_Run.calls (a0 : ByteArray) (r : Int) (w : World) (h : lines_Run.f a0 = some r) :
    Calls Try.prog 43 #[.string a0] w fun e w' => e = .returned (.int .i64 r) ∧ Below w.heap.size w w' := by
  exact ext_run a0 r w h
end Go.Proofs.Ytfiamddinkokbaa.F
end

section
set_option linter.unusedVariables false
set_option linter.unusedSimpArgs false
namespace Go.Proofs.Ytfiamddinkokbaa.F
open Go.RowKit Go.Proofs.YtfiamddinkokbaaW.PrintWords Go.Proofs.YtfiamddinkokbaaW.PrintLast Go.Proofs.YtfiamddinkokbaaW.PrintMore
attribute [local go_sem] max2_int min2_int max_two min_two max_three min_three max_four min_four
set_option linter.unusedVariables false
set_option linter.unusedSimpArgs false
mutual
def lines_Longest.l0 : Nat → Int → List (List ByteArray) → Int → Int → Option (Int)
  | 0, _, _, _, _ => none
  | k + 1, x3, x8, x9, x10 => if x10 < x9 then (if 0 ≤ x10 then (if x10 < (x8.length : Int) then (lines_Longest.l1 k x3 x8 x9 x10 (rd_L1 x8 x10) ((rd_L1 x8 x10).length : Int) 0) else (none)) else (none)) else (some x3)
def lines_Longest.l1 : Nat → Int → List (List ByteArray) → Int → Int → List ByteArray → Int → Int → Option (Int)
  | 0, _, _, _, _, _, _, _ => none
  | k + 1, x3, x8, x9, x10, x14, x15, x16 => if x16 < x15 then (if 0 ≤ x16 then (if x16 < (x14.length : Int) then ((lines_Run.f (rdOf ByteArray.empty x14 x16)).bind fun t103 => (lines_Longest.l1 k (mx x3 t103) x8 x9 x10 x14 x15 (wrap64 (x16 + 1)))) else (none)) else (none)) else (lines_Longest.l0 k x3 x8 x9 (wrap64 (x10 + 1)))
end
def lines_Longest.f (k : Nat) (l0 : List (List ByteArray)) : Option (Int) := lines_Longest.l0 k 0 l0 (l0.length : Int) 0
theorem lines_Longest.mono_l : ∀ k, (∀ y0 y1 y2 y3, LeO (lines_Longest.l0 k y0 y1 y2 y3) (lines_Longest.l0 (k + 1) y0 y1 y2 y3)) ∧ (∀ y0 y1 y2 y3 y4 y5 y6, LeO (lines_Longest.l1 k y0 y1 y2 y3 y4 y5 y6) (lines_Longest.l1 (k + 1) y0 y1 y2 y3 y4 y5 y6))
  | 0 => ⟨fun _ _ _ _ r h => by simp [lines_Longest.l0] at h, fun _ _ _ _ _ _ _ r h => by simp [lines_Longest.l1] at h⟩
  | k + 1 => by
    obtain ⟨ih0, ih1⟩ := lines_Longest.mono_l k
    refine ⟨?_, ?_⟩
    · intro y0 y1 y2 y3
      unfold lines_Longest.l0
      repeat' first
      | (with_reducible exact ih0 _ _ _ _)
      | (with_reducible exact ih1 _ _ _ _ _ _ _)
      | (with_reducible exact LeO.refl _)
      | (with_reducible exact LeO.none _)
      | (with_reducible refine LeO.ite ?_ ?_)
      | (with_reducible refine LeO.bind ?_ (fun _ => ?_))
      | exact ih0 _ _ _ _
      | exact ih1 _ _ _ _ _ _ _
      | exact LeO.none _
      | refine LeO.ite ?_ ?_
      | refine LeO.bind ?_ (fun _ => ?_)
    · intro y0 y1 y2 y3 y4 y5 y6
      unfold lines_Longest.l1
      repeat' first
      | (with_reducible exact ih0 _ _ _ _)
      | (with_reducible exact ih1 _ _ _ _ _ _ _)
      | (with_reducible exact LeO.refl _)
      | (with_reducible exact LeO.none _)
      | (with_reducible refine LeO.ite ?_ ?_)
      | (with_reducible refine LeO.bind ?_ (fun _ => ?_))
      | exact ih0 _ _ _ _
      | exact ih1 _ _ _ _ _ _ _
      | exact LeO.none _
      | refine LeO.ite ?_ ?_
      | refine LeO.bind ?_ (fun _ => ?_)
theorem lines_Longest.mono : ∀ a0 k, LeO (lines_Longest.f k a0) (lines_Longest.f (k + 1) a0) := by
  intro a0 k
  obtain ⟨ih0, ih1⟩ := lines_Longest.mono_l k
  unfold lines_Longest.f
  repeat' first
      | (with_reducible exact ih0 _ _ _ _)
      | (with_reducible exact ih1 _ _ _ _ _ _ _)
      | (with_reducible exact LeO.refl _)
      | (with_reducible exact LeO.none _)
      | (with_reducible refine LeO.ite ?_ ?_)
      | (with_reducible refine LeO.bind ?_ (fun _ => ?_))
      | exact ih0 _ _ _ _
      | exact ih1 _ _ _ _ _ _ _
      | exact LeO.none _
      | refine LeO.ite ?_ ?_
      | refine LeO.bind ?_ (fun _ => ?_)
set_option maxHeartbeats 8000000 in
set_option maxRecDepth 100000 in
theorem lines_Longest.calls (k : Nat) (A0 : Option Addr) (c0 : Nat) (l0 : List (List ByteArray)) (r : Int) (w : World) (hr0 : Kd.C (Kd.slice 9 Kd.string) w A0 l0.length l0) (hc0 : l0.length ≤ c0) (h : lines_Longest.f k l0 = some r) :
    Calls Try.prog 40 #[.slice A0 l0.length c0] w fun e w' => e = .returned (.int .i64 r) ∧ Below w.heap.size w w' := by
  have HR0 := Aside0.mk hr0
  have HC0 := Aside0.mk hc0
  clear hr0 hc0
  have HB := Aside0.mk (Below.refl w.heap.size w)
  have H : (lines_Longest.l0 k 0 l0 (l0.length : Int) 0) = some r := h
  clear h
  have H' := Aside0.mk H
  clear H
  go_enter Try.func40, Try.ntmps40
  go_wp2
  go_loopg [3, 10] k (fun kq v3 v10 w' => ∃ (x3_1 : Int) (x10_1 : Int), v3 = .int .i64 x3_1 ∧ v10 = .int .i64 x10_1 ∧ Aside0 (lines_Longest.l0 kq x3_1 l0 (l0.length : Int) x10_1 = some r) ∧ Aside0 (kq ≤ k) ∧ Aside0 (Below w.heap.size w w'))
  case atStart => exact ⟨(0), (0), (by first | rfl | (simp; done) | (simp [*]; done)), (by first | rfl | (simp; done) | (simp [*]; done)), H', ⟨Nat.le_refl _⟩, ⟨by repeat (first | (with_reducible first | exact HB.out | apply below_alloc | apply pw_below_drewN | apply below_drew1) | exact HB.out)⟩⟩
  case round =>
    clear H'
    obtain ⟨x3_1, x10_1, rfl, rfl, HA, HK1, HB⟩ := hrel
    cases gk with
    | zero => exact absurd HA.out (by simp [lines_Longest.l0])
    | succ k1 =>
      have H := HA.out
      clear HA
      simp only [lines_Longest.l0] at H
      by_cases c2 : x10_1 < (l0.length : Int)
      · rw [if_pos c2] at H
        have c2b0 : decide (x10_1 < (l0.length : Int)) = true := decide_eq_true c2
        clear c2
        by_cases c3 : 0 ≤ x10_1
        · rw [if_pos c3] at H
          have c3b0 : decide (0 ≤ x10_1) = true := decide_eq_true c3
          clear c3
          by_cases c4 : x10_1 < (l0.length : Int)
          · rw [if_pos c4] at H
            have c4b0 : decide (x10_1 < (l0.length : Int)) = true := decide_eq_true c4
            clear c4
            have H' := Aside0.mk H
            clear H
            have p101 : 0 ≤ (x10_1 : Int) := of_decide_eq_true (by first | (with_reducible assumption) | assumption)
            have q101 : x10_1 < (l0.length : Int) := of_decide_eq_true (by first | (with_reducible assumption) | assumption)
            obtain ⟨ad101, A101_0, c101_0, e101, hx101_0, hl101_0, hi101_0⟩ := at_L1 HR0.out x10_1 p101 q101
            cases e101
            replace hx101_0 := (HB.out.cell (World.block_lt_of_cell? w _ hx101_0)).trans hx101_0
            have HR101_0 := Aside0.mk hi101_0
            have HC101_0 := Aside0.mk hl101_0
            clear hi101_0 hl101_0
            replace p101 := eq_true p101
            replace q101 := eq_true q101
            go_wp2
            go_loopg [3, 16] k1 (fun kq v3 v16 w' => ∃ (x3_2 : Int) (x16_2 : Int), v3 = .int .i64 x3_2 ∧ v16 = .int .i64 x16_2 ∧ Aside0 (lines_Longest.l1 kq x3_2 l0 (l0.length : Int) x10_1 (rd_L1 l0 x10_1) ((rd_L1 l0 x10_1).length : Int) x16_2 = some r) ∧ Aside0 (kq ≤ k1) ∧ Aside0 (Below w.heap.size w w'))
            case atStart => exact ⟨(x3_1), (0), (by first | rfl | (simp; done) | (simp [*]; done)), (by first | rfl | (simp; done) | (simp [*]; done)), H', ⟨Nat.le_refl _⟩, ⟨by repeat (first | (with_reducible first | exact HB.out | apply below_alloc | apply pw_below_drewN | apply below_drew1) | exact HB.out)⟩⟩
            case round =>
              clear H'
              try clear c1
              try clear p1
              try clear q1
              try clear hx1
              try clear c2
              try clear c2b0
              try clear p2
              try clear c3
              try clear c3b0
              try clear c4
              try clear c4b0
              try clear hx101_0
              try clear p101
              try clear q101
              obtain ⟨x3_2, x16_2, rfl, rfl, HA, HK2, HB⟩ := hrel
              cases gk with
              | zero => exact absurd HA.out (by simp [lines_Longest.l1])
              | succ k2 =>
                have H := HA.out
                clear HA
                simp only [lines_Longest.l1] at H
                by_cases c5 : x16_2 < ((rd_L1 l0 x10_1).length : Int)
                · rw [if_pos c5] at H
                  have c5b0 : decide (x16_2 < ((rd_L1 l0 x10_1).length : Int)) = true := decide_eq_true c5
                  clear c5
                  by_cases c6 : 0 ≤ x16_2
                  · rw [if_pos c6] at H
                    have c6b0 : decide (0 ≤ x16_2) = true := decide_eq_true c6
                    clear c6
                    by_cases c7 : x16_2 < ((rd_L1 l0 x10_1).length : Int)
                    · rw [if_pos c7] at H
                      have c7b0 : decide (x16_2 < ((rd_L1 l0 x10_1).length : Int)) = true := decide_eq_true c7
                      clear c7
                      replace H := Option.bind_eq_some_iff.mp H
                      obtain ⟨t103, A80, H⟩ := H
                      replace H : (lines_Longest.l1 k2 (mx x3_2 t103) l0 (l0.length : Int) x10_1 (rd_L1 l0 x10_1) ((rd_L1 l0 x10_1).length : Int) (wrap64 (x16_2 + 1))) = some r := H
                      have A8 := Aside0.mk A80
                      clear A80
                      obtain ⟨ji9, hji9⟩ : ∃ j_ : Int, (mx x3_2 t103) = j_ := ⟨_, rfl⟩
                      replace H : (lines_Longest.l1 k2 ji9 l0 (l0.length : Int) x10_1 (rd_L1 l0 x10_1) ((rd_L1 l0 x10_1).length : Int) (wrap64 (x16_2 + 1))) = some r := by first | (rw [hji9] at H; exact H) | (simp only [hji9] at H ⊢; exact H)
                      (try rw [hji9] at A8)
                      have hji9_ : (if x3_2 < t103 then t103 else x3_2) = ji9 := hji9
                      have H' := Aside0.mk H
                      clear H
                      have p102 : 0 ≤ (x16_2 : Int) := of_decide_eq_true (by first | (with_reducible assumption) | assumption)
                      have q102 : x16_2 < ((rd_L1 l0 x10_1).length : Int) := of_decide_eq_true (by first | (with_reducible assumption) | assumption)
                      obtain ⟨ad102, e102, hx102_0⟩ := Kd.at_string HR101_0.out x16_2 p102 q102
                      cases e102
                      replace hx102_0 := (HB.out.cell (World.block_lt_of_cell? w _ hx102_0)).trans hx102_0
                      replace p102 := eq_true p102
                      replace q102 := eq_true q102
                      go_wp2_with (first | ((with_reducible refine gate_callee (f := 43) rfl ?_); refine goesL_ (some 22) rfl rfl Try.func43 (by kernel_rfl) rfl #[.string (rdOf ByteArray.empty (rd_L1 l0 x10_1) x16_2)] rfl (by (try simp only [List.map_toArray, List.map_cons, List.map_nil]); first | done | rfl | (simp only [List.length_drop, List.length_take]; rfl)) ?_; (with_reducible refine (lines_Run.calls (rdOf ByteArray.empty (rd_L1 l0 x10_1) x16_2) t103 _ A8.out).mono ?_); rintro e w10 ⟨rfl, hb⟩; refine ⟨_, rfl, ?_⟩; have n0_ := Aside0.mk (below_step (by repeat (first | (with_reducible first | exact HB.out | apply below_alloc | apply pw_below_drewN | apply below_drew1) | exact HB.out)) hb); clear HB; have HB := n0_; clear n0_; (try clear hb); (try clear hb2); (try clear hk); (try clear hi)))
                      go_roundg k2
                      case measure => have := HK1.out; have := HK2.out; omega
                      case rel => exact ⟨(ji9), (wrap64 (x16_2 + 1)), (by first | rfl | (simp; done) | (simp only [← hji9] <;> (first | rfl | simp)) | (simp [*]; done)), (by first | rfl | (simp; done) | (simp [*]; done)), H', ⟨by have := HK1.out; have := HK2.out; omega⟩, ⟨by repeat (first | (with_reducible first | exact HB.out | apply below_alloc | apply pw_below_drewN | apply below_drew1) | exact HB.out)⟩⟩
                    · rw [if_neg c7] at H
                      exact absurd H (by simp)
                  · rw [if_neg c6] at H
                    exact absurd H (by simp)
                · rw [if_neg c5] at H
                  have c5b0 : decide (x16_2 < ((rd_L1 l0 x10_1).length : Int)) = false := decide_eq_false c5
                  clear c5
                  have H' := Aside0.mk H
                  clear H
                  go_wp2
                  go_roundg k2
                  case measure => have := HK1.out; have := HK2.out; omega
                  case rel => exact ⟨(x3_2), (wrap64 (x10_1 + 1)), (by first | rfl | (simp; done) | (simp [*]; done)), (by first | rfl | (simp; done) | (simp [*]; done)), H', ⟨by have := HK1.out; have := HK2.out; omega⟩, ⟨by repeat (first | (with_reducible first | exact HB.out | apply below_alloc | apply pw_below_drewN | apply below_drew1) | exact HB.out)⟩⟩
          · rw [if_neg c4] at H
            exact absurd H (by simp)
        · rw [if_neg c3] at H
          exact absurd H (by simp)
      · rw [if_neg c2] at H
        have c2b0 : decide (x10_1 < (l0.length : Int)) = false := decide_eq_false c2
        clear c2
        obtain rfl := Option.some.inj H
        go_wp2
        go_ret
        exact ⟨by first | rfl | (simp [errW_none, errW_some] <;> rfl) | (simp [*, errW_none, errW_some] <;> rfl), by repeat (first | (with_reducible first | exact HB.out | apply below_alloc | apply pw_below_drewN | apply below_drew1) | exact HB.out)⟩
end Go.Proofs.Ytfiamddinkokbaa.F
end

section
set_option linter.unusedVariables false
set_option linter.unusedSimpArgs false
namespace Go.Proofs.Ytfiamddinkokbaa.F
open Go.RowKit Go.Proofs.YtfiamddinkokbaaW.PrintWords Go.Proofs.YtfiamddinkokbaaW.PrintLast Go.Proofs.YtfiamddinkokbaaW.PrintMore
attribute [local go_sem] max2_int min2_int max_two min_two max_three min_three max_four min_four
set_option linter.unusedVariables false
set_option linter.unusedSimpArgs false
def lines_Split.f (a0 : ByteArray) : Option (List ByteArray) := if a0.size ≤ 4000000000 then some (splitB a0) else none
theorem lines_Split.calls (a0 : ByteArray) (r : List ByteArray) (w : World) (h : lines_Split.f a0 = some r) :
    Calls Try.prog 29 #[.string a0] w fun e w' => ∃ v0_ : Value, e = .returned (v0_) ∧ Kd.R Kd.string 9 w' w.heap.size (fun _ => True) v0_ r ∧ Below w.heap.size w w' := by
  exact ext_split a0 r w h
end Go.Proofs.Ytfiamddinkokbaa.F
end

section
set_option linter.unusedVariables false
set_option linter.unusedSimpArgs false
namespace Go.Proofs.Ytfiamddinkokbaa.F
open Go.RowKit Go.Proofs.YtfiamddinkokbaaW.PrintWords Go.Proofs.YtfiamddinkokbaaW.PrintLast Go.Proofs.YtfiamddinkokbaaW.PrintMore
attribute [local go_sem] max2_int min2_int max_two min_two max_three min_three max_four min_four
set_option linter.unusedVariables false
set_option linter.unusedSimpArgs false
end Go.Proofs.Ytfiamddinkokbaa.F
end

section
set_option linter.unusedVariables false
set_option linter.unusedSimpArgs false
namespace Go.Proofs.Ytfiamddinkokbaa.F
open Go.RowKit Go.Proofs.YtfiamddinkokbaaW.PrintWords Go.Proofs.YtfiamddinkokbaaW.PrintLast Go.Proofs.YtfiamddinkokbaaW.PrintMore
attribute [local go_sem] max2_int min2_int max_two min_two max_three min_three max_four min_four
set_option linter.unusedVariables false
set_option linter.unusedSimpArgs false
end Go.Proofs.Ytfiamddinkokbaa.F
end

section
set_option linter.unusedVariables false
set_option linter.unusedSimpArgs false
namespace Go.Proofs.Ytfiamddinkokbaa.F
open Go.RowKit Go.Proofs.YtfiamddinkokbaaW.PrintWords Go.Proofs.YtfiamddinkokbaaW.PrintLast Go.Proofs.YtfiamddinkokbaaW.PrintMore
attribute [local go_sem] max2_int min2_int max_two min_two max_three min_three max_four min_four
set_option linter.unusedVariables false
set_option linter.unusedSimpArgs false
end Go.Proofs.Ytfiamddinkokbaa.F
end

section
set_option linter.unusedVariables false
set_option linter.unusedSimpArgs false
namespace Go.Proofs.Ytfiamddinkokbaa.F
open Go.RowKit Go.Proofs.YtfiamddinkokbaaW.PrintWords Go.Proofs.YtfiamddinkokbaaW.PrintLast Go.Proofs.YtfiamddinkokbaaW.PrintMore
attribute [local go_sem] max2_int min2_int max_two min_two max_three min_three max_four min_four
set_option linter.unusedVariables false
set_option linter.unusedSimpArgs false
end Go.Proofs.Ytfiamddinkokbaa.F
end

section
set_option linter.unusedVariables false
set_option linter.unusedSimpArgs false
namespace Go.Proofs.Ytfiamddinkokbaa.F
open Go.RowKit Go.Proofs.YtfiamddinkokbaaW.PrintWords Go.Proofs.YtfiamddinkokbaaW.PrintLast Go.Proofs.YtfiamddinkokbaaW.PrintMore
attribute [local go_sem] max2_int min2_int max_two min_two max_three min_three max_four min_four
set_option linter.unusedVariables false
set_option linter.unusedSimpArgs false
end Go.Proofs.Ytfiamddinkokbaa.F
end

section
set_option linter.unusedVariables false
set_option linter.unusedSimpArgs false
namespace Go.Proofs.Ytfiamddinkokbaa.F
open Go.RowKit Go.Proofs.YtfiamddinkokbaaW.PrintWords Go.Proofs.YtfiamddinkokbaaW.PrintLast Go.Proofs.YtfiamddinkokbaaW.PrintMore
attribute [local go_sem] max2_int min2_int max_two min_two max_three min_three max_four min_four
set_option linter.unusedVariables false
set_option linter.unusedSimpArgs false
end Go.Proofs.Ytfiamddinkokbaa.F
end

section
set_option linter.unusedVariables false
set_option linter.unusedSimpArgs false
namespace Go.Proofs.Ytfiamddinkokbaa.F
open Go.RowKit Go.Proofs.YtfiamddinkokbaaW.PrintWords Go.Proofs.YtfiamddinkokbaaW.PrintLast Go.Proofs.YtfiamddinkokbaaW.PrintMore
attribute [local go_sem] max2_int min2_int max_two min_two max_three min_three max_four min_four
set_option linter.unusedVariables false
set_option linter.unusedSimpArgs false
end Go.Proofs.Ytfiamddinkokbaa.F
end

section
set_option linter.unusedVariables false
set_option linter.unusedSimpArgs false
namespace Go.Proofs.Ytfiamddinkokbaa.F
open Go.RowKit Go.Proofs.YtfiamddinkokbaaW.PrintWords Go.Proofs.YtfiamddinkokbaaW.PrintLast Go.Proofs.YtfiamddinkokbaaW.PrintMore
attribute [local go_sem] max2_int min2_int max_two min_two max_three min_three max_four min_four
set_option linter.unusedVariables false
set_option linter.unusedSimpArgs false
end Go.Proofs.Ytfiamddinkokbaa.F
end

section
set_option linter.unusedVariables false
set_option linter.unusedSimpArgs false
namespace Go.Proofs.Ytfiamddinkokbaa.F
open Go.RowKit Go.Proofs.YtfiamddinkokbaaW.PrintWords Go.Proofs.YtfiamddinkokbaaW.PrintLast Go.Proofs.YtfiamddinkokbaaW.PrintMore
attribute [local go_sem] max2_int min2_int max_two min_two max_three min_three max_four min_four
set_option linter.unusedVariables false
set_option linter.unusedSimpArgs false
end Go.Proofs.Ytfiamddinkokbaa.F
end

section
set_option linter.unusedVariables false
set_option linter.unusedSimpArgs false
namespace Go.Proofs.Ytfiamddinkokbaa.F
open Go.RowKit Go.Proofs.YtfiamddinkokbaaW.PrintWords Go.Proofs.YtfiamddinkokbaaW.PrintLast Go.Proofs.YtfiamddinkokbaaW.PrintMore
attribute [local go_sem] max2_int min2_int max_two min_two max_three min_three max_four min_four
set_option linter.unusedVariables false
set_option linter.unusedSimpArgs false
def strings_Contains.f (a0 a1 : ByteArray) : Option Bool := if a1.size = 1 then some (decide (0 ≤ Lib.indexByte a0.data.toList (a1.data.toList.headD 0))) else none
theorem strings_Contains.calls (a0 : ByteArray) (a1 : ByteArray) (r : Bool) (w : World) (h : strings_Contains.f a0 a1 = some r) :
    Calls Try.prog 84 #[.string a0, .string a1] w fun e w' => e = .returned (.bool r) ∧ Drawn0 w w' := by
  exact ext_contains a0 a1 r w h
end Go.Proofs.Ytfiamddinkokbaa.F
end

section
set_option linter.unusedVariables false
set_option linter.unusedSimpArgs false
namespace Go.Proofs.Ytfiamddinkokbaa.F
open Go.RowKit Go.Shelf Go.Proofs.YtfiamddinkokbaaW.PrintWords
set_option linter.unusedVariables false
set_option linter.unusedSimpArgs false
def signI (k : Int) : Bool := k == 60 || (k == 124 || (k == 61 || k == 62))
def lineless (s : ByteArray) : Bool := decide (0 ≤ Lib.indexByte s.data.toList 10)
def mayB (k : Int) (fl : Bool) (lb : ByteArray) : Bool := signI k && (!lineless lb && ((k != 60 || !fl) && (k != 61 || lb.toList.isEmpty)))
theorem new_cell0 (W : World) (cs : Array Value) (t : TypeId) (i : Nat) (v : Value) (h : cs[i]? = some v) : (W.alloc (.cells cs t)).cell? ⟨W.heap.size, i, none⟩ = some v := (blk_cell (World.alloc_heap_new W _) i).trans h
theorem tr0 {W W' : World} {p : Addr} {v : Value} (hb : Below W.heap.size W W') (h : W.cell? p = some v) : W'.cell? p = some v := (hb.cell (World.block_lt_of_cell? W _ h)).trans h
theorem encode_small : ∀ n : Fin 128, Utf8.encode ((n.val : Nat) : Int) = ⟨#[UInt8.ofNat n.val]⟩ := by decide +kernel
theorem sign_small : ∀ n : Fin 128, isSign (UInt8.ofNat n.val) = signI ((n.val : Nat) : Int) := by decide +kernel
theorem may_sign (n : Nat) (h : n < 128) (W : World) : Calls Try.prog 84 #[.string ⟨#[60, 124, 61, 62]⟩, .string (Utf8.encode (n : Int))] W fun e w' => e = .returned (.bool (signI n)) ∧ Below W.heap.size W w' := by
  have e1 := encode_small ⟨n, h⟩
  have e2 := sign_small ⟨n, h⟩
  simp only at e1 e2
  rw [e1]
  refine (strings_Contains.calls ⟨#[60, 124, 61, 62]⟩ ⟨#[UInt8.ofNat n]⟩ (signI n) W ?_).mono ?_
  · unfold strings_Contains.f
    rw [if_pos (show (⟨#[UInt8.ofNat n]⟩ : ByteArray).size = 1 from rfl), ← e2, ← sign_index]; rfl
  · rintro e w' ⟨rfl, d, rfl⟩; exact ⟨rfl, pw_below_drewN (Below.refl _ _) d⟩
theorem may_line (lb : ByteArray) (W : World) : Calls Try.prog 84 #[.string lb, .string ⟨#[10]⟩] W fun e w' => e = .returned (.bool (lineless lb)) ∧ Below W.heap.size W w' := by
  refine (strings_Contains.calls lb ⟨#[10]⟩ (lineless lb) W rfl).mono ?_
  rintro e w' ⟨rfl, d, rfl⟩; exact ⟨rfl, pw_below_drewN (Below.refl _ _) d⟩
set_option maxHeartbeats 8000000 in
set_option maxRecDepth 100000 in
theorem may_calls (k : Int) (fl : Bool) (lb : ByteArray) (w : World) (h0 : 0 ≤ k) (h1 : k < 128) :
    Calls Try.prog 95 #[.agg #[.int .u8 k, .bool fl, .string lb]] w fun e w' => e = .returned (.bool (mayB k fl lb)) ∧ Below w.heap.size w w' := by
  obtain ⟨n, rfl⟩ := Int.eq_ofNat_of_zero_le h0
  have h2 : n < 128 := by omega
  have hs := may_sign n h2
  have hl := may_line lb
  unfold mayB
  clear h2
  generalize hk : (n : Int) = k at *
  have k0 : 0 ≤ k := h0
  clear h0
  generalize hA : signI k = bs at hs ⊢
  generalize hL : lineless lb = bl at hl ⊢
  have HB : Below w.heap.size w (w.alloc (.cells #[.int .u8 k, .bool fl, .string lb] 62)) := below_alloc (Below.refl _ _) _
  have c0 := new_cell0 w #[.int .u8 k, .bool fl, .string lb] 62 0 _ rfl
  have c1 := new_cell0 w #[.int .u8 k, .bool fl, .string lb] 62 1 _ rfl
  have c2 := new_cell0 w #[.int .u8 k, .bool fl, .string lb] 62 2 _ rfl
  go_enter Try.func95, Try.ntmps95
  clear hk n
  go_wp2_with (first
    | (go_at_call_of 84 (Value.string ⟨#[60, 124, 61, 62]⟩); refine (hs _).mono ?_; rintro e w1 ⟨rfl, hb1⟩; replace c0 := tr0 hb1 c0; replace c1 := tr0 hb1 c1; replace c2 := tr0 hb1 c2; replace HB := below_step HB hb1; clear hb1)
    | (go_at_call_of 84 (Value.string lb); refine (hl _).mono ?_; rintro e w1 ⟨rfl, hb1⟩; replace c0 := tr0 hb1 c0; replace c1 := tr0 hb1 c1; replace c2 := tr0 hb1 c2; replace HB := below_step HB hb1; clear hb1))
  all_goals go_ret
  all_goals refine ⟨?_, HB⟩
  all_goals clear hs hl c0 c1 c2 HB
  all_goals simp_all
end Go.Proofs.Ytfiamddinkokbaa.F
end

section
set_option linter.unusedVariables false
set_option linter.unusedSimpArgs false
namespace Go.Proofs.Ytfiamddinkokbaa.F
open Go.RowKit Go.Shelf Go.Proofs.YtfiamddinkokbaaW.PrintWords
set_option linter.unusedVariables false
set_option linter.unusedSimpArgs false
theorem ln_size_toB (l : List UInt8) : (toB l).size = l.length := by rw [← show (toB l).data.toList.length = (toB l).size from Array.length_toList, data_toB]
theorem ln_bytes_ext {a b : ByteArray} (h : a.data.toList = b.data.toList) : a = b := by rw [← toB_data a, h, toB_data]
theorem ln_toList (s : ByteArray) : s.toList = s.data.toList := ByteArray.toList_eq s
def lineB (k : Int) (fl : Bool) (lb : ByteArray) (width : Int) : ByteArray :=
  toB (List.replicate width.toNat (UInt8.ofNat k.toNat) ++ ((if fl = true then [33] else []) ++ ((if lb.toList.isEmpty = true then [] else 32 :: lb.data.toList) ++ [10])))
theorem repeat_one (c : UInt8) : ∀ n : Nat, Lib.repeatL [c] n = List.replicate n c := by
  intro n
  induction n with
  | zero => rfl
  | succ n ih => simp [Lib.repeatL, ih, List.replicate_succ]
theorem line_repeat (n : Nat) (h : n < 128) (c : Nat) (hc : c ≤ 1073741824) (W : World) :
    Calls Try.prog 129 #[.string (Utf8.encode (n : Int)), .int .i64 c] W fun e w' => e = .returned (.string (toB (List.replicate c (UInt8.ofNat n)))) ∧ Below W.heap.size W w' := by
  have e1 := encode_small ⟨n, h⟩
  simp only at e1
  rw [e1]
  have hs : (⟨#[UInt8.ofNat n]⟩ : ByteArray).size = 1 := rfl
  refine (Try.strings_Repeat ⟨#[UInt8.ofNat n]⟩ c W (by omega) (by rw [hs]; omega)).mono ?_
  rintro e w' ⟨rfl, hb⟩
  refine ⟨?_, hb⟩
  have : Lib.repeatL (⟨#[UInt8.ofNat n]⟩ : ByteArray).data.toList c = List.replicate c (UInt8.ofNat n) := repeat_one _ c
  rw [this]; rfl
end Go.Proofs.Ytfiamddinkokbaa.F
end

section
set_option linter.unusedVariables false
set_option linter.unusedSimpArgs false
namespace Go.Proofs.Ytfiamddinkokbaa.F
open Go.RowKit Go.Shelf Go.Proofs.YtfiamddinkokbaaW.PrintWords
set_option linter.unusedVariables false
set_option linter.unusedSimpArgs false
set_option maxHeartbeats 8000000 in
set_option maxRecDepth 100000 in
theorem line_calls (k : Int) (fl : Bool) (lb : ByteArray) (width : Int) (w : World) (h0 : 0 ≤ k) (h1 : k < 128) (w0 : 0 ≤ width) (w1 : width ≤ 1073741824) (hl : lb.size ≤ 4000000000) :
    Calls Try.prog 96 #[.agg #[.int .u8 k, .bool fl, .string lb], .int .i64 width] w fun e w' => e = .returned (.string (lineB k fl lb width)) ∧ Below w.heap.size w w' := by
  obtain ⟨n, rfl⟩ := Int.eq_ofNat_of_zero_le h0
  obtain ⟨c, rfl⟩ := Int.eq_ofNat_of_zero_le w0
  have h2 : n < 128 := by omega
  have h3 : c ≤ 1073741824 := by omega
  have hs := line_repeat n h2 c h3
  unfold lineB
  rw [Int.toNat_natCast, Int.toNat_natCast]
  have ht : (toB (List.replicate c (UInt8.ofNat n))).size = c := by rw [ln_size_toB]; simp
  generalize hT : toB (List.replicate c (UInt8.ofNat n)) = t at hs ht
  have hT2 : List.replicate c (UInt8.ofNat n) = t.data.toList := by rw [← hT, data_toB]
  rw [hT2]
  clear hT hT2
  have f1 : (9223372036854775807 < t.size + 1) = False := eq_false (by omega)
  have f2 : (9223372036854775807 < 1 + lb.size) = False := eq_false (by omega)
  have f3 : (9223372036854775807 < t.size + (1 + lb.size)) = False := eq_false (by omega)
  have f4 : (9223372036854775807 < t.size + 1 + (1 + lb.size)) = False := eq_false (by omega)
  have f5 : (9223372036854775807 < t.size + (1 + lb.size) + 1) = False := eq_false (by omega)
  have f6 : (9223372036854775807 < t.size + 1 + (1 + lb.size) + 1) = False := eq_false (by omega)
  have f7 : (9223372036854775807 < t.size + 1 + 1) = False := eq_false (by omega)
  clear h2 h3 w0 w1 hl ht
  generalize hk : (n : Int) = k at *
  generalize hc : (c : Int) = cc at *
  clear hk hc n c
  have HE : Aside0 (lb.toList.isEmpty = true ↔ lb.data.toList = []) := ⟨by rw [List.isEmpty_iff, ln_toList]⟩
  have HB := Aside0.mk (below_alloc (Below.refl w.heap.size w) (.cells #[.int .u8 k, .bool fl, .string lb] 62))
  have c0 := new_cell0 w #[.int .u8 k, .bool fl, .string lb] 62 0 (.int .u8 k) rfl
  have c1 := new_cell0 w #[.int .u8 k, .bool fl, .string lb] 62 1 (.bool fl) rfl
  have c2 := new_cell0 w #[.int .u8 k, .bool fl, .string lb] 62 2 (.string lb) rfl
  go_enter Try.func96, Try.ntmps96
  go_wp2_with (first
    | (go_at_call 129; refine (hs _).mono ?_; rintro e w1 ⟨rfl, hb1⟩; replace c0 := tr0 hb1 c0; replace c1 := tr0 hb1 c1; replace c2 := tr0 hb1 c2; replace HB := Aside0.mk (below_step HB.out hb1); clear hb1 hs))
  all_goals go_ret
  all_goals refine ⟨?_, HB.out⟩
  all_goals first
    | (exfalso; simp_all; done)
    | (refine (?_ : Ending.returned (Value.string _) = Ending.returned (Value.string _)); refine congrArg Ending.returned (congrArg Value.string (ln_bytes_ext ?_)); simp [data_toB, *]; done)
    | (refine (?_ : Ending.returned (Value.string _) = Ending.returned (Value.string _)); refine congrArg Ending.returned (congrArg Value.string (ln_bytes_ext ?_)); simp_all [data_toB]; done)
theorem ext_may (k : Int) (fl : Bool) (lb : ByteArray) (r : Bool) (w : World) (h : (if 0 ≤ k ∧ k < 128 then some (mayB k fl lb) else none) = some r) :
    Calls Try.prog 95 #[.agg #[.int .u8 k, .bool fl, .string lb]] w fun e w' => e = .returned (.bool r) ∧ Below w.heap.size w w' := by
  split at h
  · rename_i hk
    obtain rfl := Option.some.inj h
    exact may_calls k fl lb w hk.1 hk.2
  · cases h
theorem ext_line (k : Int) (fl : Bool) (lb : ByteArray) (width : Int) (r : ByteArray) (w : World) (h : (if 0 ≤ k ∧ k < 128 ∧ 0 ≤ width ∧ width ≤ 1073741824 ∧ lb.size ≤ 4000000000 then some (lineB k fl lb width) else none) = some r) :
    Calls Try.prog 96 #[.agg #[.int .u8 k, .bool fl, .string lb], .int .i64 width] w fun e w' => e = .returned (.string r) ∧ Below w.heap.size w w' := by
  split at h
  · rename_i hk
    obtain rfl := Option.some.inj h
    exact line_calls k fl lb width w hk.1 hk.2.1 hk.2.2.1 hk.2.2.2.1 hk.2.2.2.2
  · cases h
end Go.Proofs.Ytfiamddinkokbaa.F
end

section
set_option linter.unusedVariables false
set_option linter.unusedSimpArgs false
namespace Go.Proofs.Ytfiamddinkokbaa.F
open Go.RowKit Go.Proofs.YtfiamddinkokbaaW.PrintWords Go.Proofs.YtfiamddinkokbaaW.PrintLast Go.Proofs.YtfiamddinkokbaaW.PrintMore
attribute [local go_sem] max2_int min2_int max_two min_two max_three min_three max_four min_four
set_option linter.unusedVariables false
set_option linter.unusedSimpArgs false
def stringslite_HasSuffix.f (a0 : ByteArray) (a1 : ByteArray) : Option (Bool) := if (a0.size : Int) ≥ (a1.size : Int) then (if 0 ≤ (wrap64 ((a0.size : Int) - (a1.size : Int))) then (if (wrap64 ((a0.size : Int) - (a1.size : Int))) ≤ (a0.size : Int) then (some ((a0.extract ((wrap64 ((a0.size : Int) - (a1.size : Int))) : Int).toNat a0.size).toList == a1.toList)) else (none)) else (none)) else (some false)
set_option maxHeartbeats 8000000 in
set_option maxRecDepth 100000 in
theorem stringslite_HasSuffix.calls (a0 : ByteArray) (a1 : ByteArray) (r : Bool) (w : World) (h : stringslite_HasSuffix.f a0 a1 = some r) :
    Calls Try.prog 142 #[.string a0, .string a1] w fun e w' => e = .returned (.bool r) ∧ Drawn0 w w' := by
  have H : (if (a0.size : Int) ≥ (a1.size : Int) then (if 0 ≤ (wrap64 ((a0.size : Int) - (a1.size : Int))) then (if (wrap64 ((a0.size : Int) - (a1.size : Int))) ≤ (a0.size : Int) then (some ((a0.extract ((wrap64 ((a0.size : Int) - (a1.size : Int))) : Int).toNat a0.size).toList == a1.toList)) else (none)) else (none)) else (some false)) = some r := h
  clear h
  by_cases c3 : (a0.size : Int) ≥ (a1.size : Int)
  · rw [if_pos c3] at H
    have c3b0 : decide ((a1.size : Int) ≤ (a0.size : Int)) = true := decide_eq_true c3
    have c3b1 : decide (a1.size ≤ a0.size) = true := decide_eq_true (Int.ofNat_le.mp c3)
    clear c3
    obtain ⟨ji4, hji4⟩ : ∃ j_ : Int, (wrap64 ((a0.size : Int) - (a1.size : Int))) = j_ := ⟨_, rfl⟩
    replace H : (if 0 ≤ (ji4) then (if (ji4) ≤ (a0.size : Int) then (some ((a0.extract ((ji4) : Int).toNat a0.size).toList == a1.toList)) else (none)) else (none)) = some r := by first | (rw [hji4] at H; exact H) | (simp only [hji4] at H ⊢; exact H)
    have hji4w : (IntKind.i64.wrap ((a0.size : Int) - (a1.size : Int))) = ji4 := (i64_w _).trans hji4
    by_cases c5 : 0 ≤ (ji4)
    · rw [if_pos c5] at H
      have c5b0 := eq_true c5
      have c5b1 : decide (0 ≤ (ji4)) = true := decide_eq_true c5
      clear c5
      by_cases c6 : (ji4) ≤ (a0.size : Int)
      · rw [if_pos c6] at H
        have c6b0 := eq_true c6
        have c6b1 : decide ((ji4) ≤ (a0.size : Int)) = true := decide_eq_true c6
        clear c6
        obtain rfl := Option.some.inj H
        go_enter Try.func142, Try.ntmps142
        go_wp2
        go_ret
        exact ⟨by first | rfl | (simp; done) | (simp only [← hji4] <;> (first | rfl | simp)) | (simp [*]; done), by repeat (first | exact Drawn0.refl _ | apply Drawn0.step)⟩
      · rw [if_neg c6] at H
        exact absurd H (by simp)
    · rw [if_neg c5] at H
      exact absurd H (by simp)
  · rw [if_neg c3] at H
    have c3b0 : decide ((a1.size : Int) ≤ (a0.size : Int)) = false := decide_eq_false c3
    have c3b1 : decide (a1.size ≤ a0.size) = false := decide_eq_false (fun h => c3 (Int.ofNat_le.mpr h))
    clear c3
    obtain rfl := Option.some.inj H
    go_enter Try.func142, Try.ntmps142
    go_wp2
    go_ret
    exact ⟨by first | rfl | (simp; done) | (simp [*]; done), by repeat (first | exact Drawn0.refl _ | apply Drawn0.step)⟩
end Go.Proofs.Ytfiamddinkokbaa.F
end

section
set_option linter.unusedVariables false
set_option linter.unusedSimpArgs false
namespace Go.Proofs.Ytfiamddinkokbaa.F
open Go.RowKit Go.Proofs.YtfiamddinkokbaaW.PrintWords Go.Proofs.YtfiamddinkokbaaW.PrintLast Go.Proofs.YtfiamddinkokbaaW.PrintMore
attribute [local go_sem] max2_int min2_int max_two min_two max_three min_three max_four min_four
set_option linter.unusedVariables false
set_option linter.unusedSimpArgs false
def strings_HasSuffix.f (a0 : ByteArray) (a1 : ByteArray) : Option (Bool) := (stringslite_HasSuffix.f a0 a1).bind fun t135 => (some t135)
set_option maxHeartbeats 8000000 in
set_option maxRecDepth 100000 in
theorem strings_HasSuffix.calls (a0 : ByteArray) (a1 : ByteArray) (r : Bool) (w : World) (h : strings_HasSuffix.f a0 a1 = some r) :
    Calls Try.prog 115 #[.string a0, .string a1] w fun e w' => e = .returned (.bool r) ∧ Drawn0 w w' := by
  have H : ((stringslite_HasSuffix.f a0 a1).bind fun t135 => (some t135)) = some r := h
  clear h
  replace H := Option.bind_eq_some_iff.mp H
  obtain ⟨t135, A30, H⟩ := H
  replace H : (some t135) = some r := H
  have A3 := Aside0.mk A30
  clear A30
  obtain rfl := Option.some.inj H
  go_enter Try.func115, Try.ntmps115
  go_wp2_with (first | ((with_reducible refine gate_callee (f := 142) rfl ?_); refine goesL_ (some 7) rfl rfl Try.func142 (by kernel_rfl) rfl #[.string a0, .string a1] rfl (by (try simp only [List.map_toArray, List.map_cons, List.map_nil]); first | done | rfl | (simp only [List.length_drop, List.length_take]; rfl)) ?_; (with_reducible refine (stringslite_HasSuffix.calls a0 a1 t135 _ A3.out).mono ?_); rintro e w' ⟨rfl, ⟨nd, rfl⟩⟩; refine ⟨_, rfl, ?_⟩))
  go_ret
  exact ⟨by first | rfl | (simp; done) | (simp [*]; done), by repeat (first | exact Drawn0.refl _ | apply Drawn0.step)⟩
end Go.Proofs.Ytfiamddinkokbaa.F
end

section
set_option linter.unusedVariables false
set_option linter.unusedSimpArgs false
namespace Go.Proofs.Ytfiamddinkokbaa.F
open Go.RowKit Go.Proofs.YtfiamddinkokbaaW.PrintWords Go.Proofs.YtfiamddinkokbaaW.PrintLast Go.Proofs.YtfiamddinkokbaaW.PrintMore
attribute [local go_sem] max2_int min2_int max_two min_two max_three min_three max_four min_four
set_option linter.unusedVariables false
set_option linter.unusedSimpArgs false
def mark_wide.f (a0 : Int) : Option (Bool) := if a0 ≥ 1 then (some (decide (a0 ≤ 1073741824))) else (some false)
set_option maxHeartbeats 8000000 in
set_option maxRecDepth 100000 in
theorem mark_wide.calls (a0 : Int) (r : Bool) (w : World) (h : mark_wide.f a0 = some r) :
    Calls Try.prog 86 #[.int .i64 a0] w fun e w' => e = .returned (.bool r) ∧ Drawn0 w w' := by
  have H : (if a0 ≥ 1 then (some (decide (a0 ≤ 1073741824))) else (some false)) = some r := h
  clear h
  by_cases c2 : a0 ≥ 1
  · rw [if_pos c2] at H
    have c2b0 : decide (1 ≤ a0) = true := decide_eq_true c2
    clear c2
    obtain rfl := Option.some.inj H
    go_enter Try.func86, Try.ntmps86
    go_wp2
    go_ret
    exact ⟨by first | rfl | (simp; done) | (simp [*]; done), by repeat (first | exact Drawn0.refl _ | apply Drawn0.step)⟩
  · rw [if_neg c2] at H
    have c2b0 : decide (1 ≤ a0) = false := decide_eq_false c2
    clear c2
    obtain rfl := Option.some.inj H
    go_enter Try.func86, Try.ntmps86
    go_wp2
    go_ret
    exact ⟨by first | rfl | (simp; done) | (simp [*]; done), by repeat (first | exact Drawn0.refl _ | apply Drawn0.step)⟩
end Go.Proofs.Ytfiamddinkokbaa.F
end

section
set_option linter.unusedVariables false
set_option linter.unusedSimpArgs false
namespace Go.Proofs.Ytfiamddinkokbaa.F
open Go.RowKit Go.Proofs.YtfiamddinkokbaaW.PrintWords Go.Proofs.YtfiamddinkokbaaW.PrintLast Go.Proofs.YtfiamddinkokbaaW.PrintMore
attribute [local go_sem] max2_int min2_int max_two min_two max_three min_three max_four min_four
set_option linter.unusedVariables false
set_option linter.unusedSimpArgs false
def mark_Marker_may.f (a0_0 : Int) (a0_1 : Bool) (a0_2 : ByteArray) : Option Bool := if 0 ≤ a0_0 ∧ a0_0 < 128 then some (mayB a0_0 a0_1 a0_2) else none
theorem mark_Marker_may.calls (a0_0 : Int) (a0_1 : Bool) (a0_2 : ByteArray) (r : Bool) (w : World) (h : mark_Marker_may.f a0_0 a0_1 a0_2 = some r) :
    Calls Try.prog 95 #[.agg #[.int .u8 a0_0, .bool a0_1, .string a0_2]] w fun e w' => e = .returned (.bool r) ∧ Below w.heap.size w w' := by
  exact ext_may a0_0 a0_1 a0_2 r w h
end Go.Proofs.Ytfiamddinkokbaa.F
end

section
set_option linter.unusedVariables false
set_option linter.unusedSimpArgs false
namespace Go.Proofs.Ytfiamddinkokbaa.F
open Go.RowKit Go.Proofs.YtfiamddinkokbaaW.PrintWords Go.Proofs.YtfiamddinkokbaaW.PrintLast Go.Proofs.YtfiamddinkokbaaW.PrintMore
attribute [local go_sem] max2_int min2_int max_two min_two max_three min_three max_four min_four
set_option linter.unusedVariables false
set_option linter.unusedSimpArgs false
def mark_Marker_line.f (a0_0 : Int) (a0_1 : Bool) (a0_2 : ByteArray) (a1 : Int) : Option ByteArray := if 0 ≤ a0_0 ∧ a0_0 < 128 ∧ 0 ≤ a1 ∧ a1 ≤ 1073741824 ∧ a0_2.size ≤ 4000000000 then some (lineB a0_0 a0_1 a0_2 a1) else none
theorem mark_Marker_line.calls (a0_0 : Int) (a0_1 : Bool) (a0_2 : ByteArray) (a1 : Int) (r : ByteArray) (w : World) (h : mark_Marker_line.f a0_0 a0_1 a0_2 a1 = some r) :
    Calls Try.prog 96 #[.agg #[.int .u8 a0_0, .bool a0_1, .string a0_2], .int .i64 a1] w fun e w' => e = .returned (.string r) ∧ Below w.heap.size w w' := by
  exact ext_line a0_0 a0_1 a0_2 a1 r w h
end Go.Proofs.Ytfiamddinkokbaa.F
end

section
set_option linter.unusedVariables false
set_option linter.unusedSimpArgs false
namespace Go.Proofs.Ytfiamddinkokbaa.F
open Go.RowKit Go.Proofs.YtfiamddinkokbaaW.PrintWords Go.Proofs.YtfiamddinkokbaaW.PrintLast Go.Proofs.YtfiamddinkokbaaW.PrintMore
attribute [local go_sem] max2_int min2_int max_two min_two max_three min_three max_four min_four
set_option linter.unusedVariables false
set_option linter.unusedSimpArgs false
def stringslite_HasPrefix.f (a0 : ByteArray) (a1 : ByteArray) : Option (Bool) := if (a0.size : Int) ≥ (a1.size : Int) then (if 0 ≤ (a1.size : Int) then (if (a1.size : Int) ≤ (a0.size : Int) then (some ((a0.extract 0 ((a1.size : Int) : Int).toNat).toList == a1.toList)) else (none)) else (none)) else (some false)
set_option maxHeartbeats 8000000 in
set_option maxRecDepth 100000 in
theorem stringslite_HasPrefix.calls (a0 : ByteArray) (a1 : ByteArray) (r : Bool) (w : World) (h : stringslite_HasPrefix.f a0 a1 = some r) :
    Calls Try.prog 154 #[.string a0, .string a1] w fun e w' => e = .returned (.bool r) ∧ Drawn0 w w' := by
  have H : (if (a0.size : Int) ≥ (a1.size : Int) then (if 0 ≤ (a1.size : Int) then (if (a1.size : Int) ≤ (a0.size : Int) then (some ((a0.extract 0 ((a1.size : Int) : Int).toNat).toList == a1.toList)) else (none)) else (none)) else (some false)) = some r := h
  clear h
  by_cases c3 : (a0.size : Int) ≥ (a1.size : Int)
  · rw [if_pos c3] at H
    have c3b0 : decide ((a1.size : Int) ≤ (a0.size : Int)) = true := decide_eq_true c3
    have c3b1 : decide (a1.size ≤ a0.size) = true := decide_eq_true (Int.ofNat_le.mp c3)
    clear c3
    by_cases c4 : 0 ≤ (a1.size : Int)
    · rw [if_pos c4] at H
      have c4b0 := eq_true c4
      have c4b1 : decide (0 ≤ (a1.size : Int)) = true := decide_eq_true c4
      clear c4
      by_cases c5 : (a1.size : Int) ≤ (a0.size : Int)
      · rw [if_pos c5] at H
        have c5b0 := eq_true c5
        have c5b1 : decide ((a1.size : Int) ≤ (a0.size : Int)) = true := decide_eq_true c5
        clear c5
        obtain rfl := Option.some.inj H
        go_enter Try.func154, Try.ntmps154
        go_wp2
        go_ret
        exact ⟨by first | rfl | (simp; done) | (simp [*]; done), by repeat (first | exact Drawn0.refl _ | apply Drawn0.step)⟩
      · rw [if_neg c5] at H
        exact absurd H (by simp)
    · rw [if_neg c4] at H
      exact absurd H (by simp)
  · rw [if_neg c3] at H
    have c3b0 : decide ((a1.size : Int) ≤ (a0.size : Int)) = false := decide_eq_false c3
    have c3b1 : decide (a1.size ≤ a0.size) = false := decide_eq_false (fun h => c3 (Int.ofNat_le.mpr h))
    clear c3
    obtain rfl := Option.some.inj H
    go_enter Try.func154, Try.ntmps154
    go_wp2
    go_ret
    exact ⟨by first | rfl | (simp; done) | (simp [*]; done), by repeat (first | exact Drawn0.refl _ | apply Drawn0.step)⟩
end Go.Proofs.Ytfiamddinkokbaa.F
end

section
set_option linter.unusedVariables false
set_option linter.unusedSimpArgs false
namespace Go.Proofs.Ytfiamddinkokbaa.F
open Go.RowKit Go.Proofs.YtfiamddinkokbaaW.PrintWords Go.Proofs.YtfiamddinkokbaaW.PrintLast Go.Proofs.YtfiamddinkokbaaW.PrintMore
attribute [local go_sem] max2_int min2_int max_two min_two max_three min_three max_four min_four
set_option linter.unusedVariables false
set_option linter.unusedSimpArgs false
def stringslite_CutPrefix.f (a0 : ByteArray) (a1 : ByteArray) : Option (ByteArray × Bool) := (stringslite_HasPrefix.f a0 a1).bind fun t348 => (if t348 = true then (if 0 ≤ (a1.size : Int) then (if (a1.size : Int) ≤ (a0.size : Int) then (some (a0.extract ((a1.size : Int) : Int).toNat a0.size, true)) else (none)) else (none)) else (some (a0, false)))
set_option maxHeartbeats 8000000 in
set_option maxRecDepth 100000 in
theorem stringslite_CutPrefix.calls (a0 : ByteArray) (a1 : ByteArray) (r1 : ByteArray) (r2 : Bool) (w : World) (h : stringslite_CutPrefix.f a0 a1 = some (r1, r2)) :
    Calls Try.prog 130 #[.string a0, .string a1] w fun e w' => e = .returned (.tuple #[.string r1, .bool r2]) ∧ Drawn0 w w' := by
  have H : ((stringslite_HasPrefix.f a0 a1).bind fun t348 => (if t348 = true then (if 0 ≤ (a1.size : Int) then (if (a1.size : Int) ≤ (a0.size : Int) then (some (a0.extract ((a1.size : Int) : Int).toNat a0.size, true)) else (none)) else (none)) else (some (a0, false)))) = some (r1, r2) := h
  clear h
  replace H := Option.bind_eq_some_iff.mp H
  obtain ⟨t348, A30, H⟩ := H
  replace H : (if t348 = true then (if 0 ≤ (a1.size : Int) then (if (a1.size : Int) ≤ (a0.size : Int) then (some (a0.extract ((a1.size : Int) : Int).toNat a0.size, true)) else (none)) else (none)) else (some (a0, false))) = some (r1, r2) := H
  have A3 := Aside0.mk A30
  clear A30
  by_cases c4 : t348 = true
  · subst c4
    have H1 : (if 0 ≤ (a1.size : Int) then (if (a1.size : Int) ≤ (a0.size : Int) then (some (a0.extract ((a1.size : Int) : Int).toNat a0.size, true)) else (none)) else (none)) = some (r1, r2) := by rw [if_pos rfl] at H; exact H
    clear H
    have H := H1
    clear H1
    by_cases c5 : 0 ≤ (a1.size : Int)
    · rw [if_pos c5] at H
      have c5b0 := eq_true c5
      have c5b1 : decide (0 ≤ (a1.size : Int)) = true := decide_eq_true c5
      clear c5
      by_cases c6 : (a1.size : Int) ≤ (a0.size : Int)
      · rw [if_pos c6] at H
        have c6b0 := eq_true c6
        have c6b1 : decide ((a1.size : Int) ≤ (a0.size : Int)) = true := decide_eq_true c6
        clear c6
        simp only [Option.some.injEq, Prod.mk.injEq] at H
        obtain ⟨rfl, rfl⟩ := H
        go_enter Try.func130, Try.ntmps130
        go_wp2_with (first | ((with_reducible refine gate_callee (f := 154) rfl ?_); refine goesL_ (some 8) rfl rfl Try.func154 (by kernel_rfl) rfl #[.string a0, .string a1] rfl (by (try simp only [List.map_toArray, List.map_cons, List.map_nil]); first | done | rfl | (simp only [List.length_drop, List.length_take]; rfl)) ?_; (with_reducible refine (stringslite_HasPrefix.calls a0 a1 true _ A3.out).mono ?_); rintro e w' ⟨rfl, ⟨nd, rfl⟩⟩; refine ⟨_, rfl, ?_⟩))
        go_ret2
        exact ⟨by first | rfl | (simp; done) | (simp [*]; done), by repeat (first | exact Drawn0.refl _ | apply Drawn0.step)⟩
      · rw [if_neg c6] at H
        exact absurd H (by simp)
    · rw [if_neg c5] at H
      exact absurd H (by simp)
  · replace c4 := Bool.eq_false_iff.mpr c4
    subst c4
    have H1 : (some (a0, false)) = some (r1, r2) := by rw [if_neg (show ¬ (false = true) by decide)] at H; exact H
    clear H
    have H := H1
    clear H1
    simp only [Option.some.injEq, Prod.mk.injEq] at H
    obtain ⟨rfl, rfl⟩ := H
    go_enter Try.func130, Try.ntmps130
    go_wp2_with (first | ((with_reducible refine gate_callee (f := 154) rfl ?_); refine goesL_ (some 8) rfl rfl Try.func154 (by kernel_rfl) rfl #[.string a0, .string a1] rfl (by (try simp only [List.map_toArray, List.map_cons, List.map_nil]); first | done | rfl | (simp only [List.length_drop, List.length_take]; rfl)) ?_; (with_reducible refine (stringslite_HasPrefix.calls a0 a1 false _ A3.out).mono ?_); rintro e w' ⟨rfl, ⟨nd, rfl⟩⟩; refine ⟨_, rfl, ?_⟩))
    go_ret2
    exact ⟨by first | rfl | (simp; done) | (simp [*]; done), by repeat (first | exact Drawn0.refl _ | apply Drawn0.step)⟩
end Go.Proofs.Ytfiamddinkokbaa.F
end

section
set_option linter.unusedVariables false
set_option linter.unusedSimpArgs false
namespace Go.Proofs.Ytfiamddinkokbaa.F
open Go.RowKit Go.Proofs.YtfiamddinkokbaaW.PrintWords Go.Proofs.YtfiamddinkokbaaW.PrintLast Go.Proofs.YtfiamddinkokbaaW.PrintMore
attribute [local go_sem] max2_int min2_int max_two min_two max_three min_three max_four min_four
set_option linter.unusedVariables false
set_option linter.unusedSimpArgs false
def strings_CutPrefix.f (a0 : ByteArray) (a1 : ByteArray) : Option (ByteArray × Bool) := (stringslite_CutPrefix.f a0 a1).bind fun bt349 => (some (bt349.1, bt349.2))
set_option maxHeartbeats 8000000 in
set_option maxRecDepth 100000 in
theorem strings_CutPrefix.calls (a0 : ByteArray) (a1 : ByteArray) (r1 : ByteArray) (r2 : Bool) (w : World) (h : strings_CutPrefix.f a0 a1 = some (r1, r2)) :
    Calls Try.prog 98 #[.string a0, .string a1] w fun e w' => e = .returned (.tuple #[.string r1, .bool r2]) ∧ Drawn0 w w' := by
  have H : ((stringslite_CutPrefix.f a0 a1).bind fun bt349 => (some (bt349.1, bt349.2))) = some (r1, r2) := h
  clear h
  replace H := Option.bind_eq_some_iff.mp H
  obtain ⟨⟨t349, t350⟩, A30, H⟩ := H
  replace H : (some (t349, t350)) = some (r1, r2) := H
  have A3 := Aside0.mk A30
  clear A30
  simp only [Option.some.injEq, Prod.mk.injEq] at H
  obtain ⟨rfl, rfl⟩ := H
  go_enter Try.func98, Try.ntmps98
  go_wp2_with (first | ((with_reducible refine gate_callee (f := 130) rfl ?_); refine goesL_ (some 8) rfl rfl Try.func130 (by kernel_rfl) rfl #[.string a0, .string a1] rfl (by (try simp only [List.map_toArray, List.map_cons, List.map_nil]); first | done | rfl | (simp only [List.length_drop, List.length_take]; rfl)) ?_; (with_reducible refine (stringslite_CutPrefix.calls a0 a1 t349 t350 _ A3.out).mono ?_); rintro e w' ⟨rfl, ⟨nd, rfl⟩⟩; refine ⟨_, rfl, ?_⟩))
  go_ret2
  exact ⟨by first | rfl | (simp; done) | (simp [*]; done), by repeat (first | exact Drawn0.refl _ | apply Drawn0.step)⟩
end Go.Proofs.Ytfiamddinkokbaa.F
end

section
set_option linter.unusedVariables false
set_option linter.unusedSimpArgs false
namespace Go.Proofs.Ytfiamddinkokbaa.F
open Go.RowKit Go.Proofs.YtfiamddinkokbaaW.PrintWords Go.Proofs.YtfiamddinkokbaaW.PrintLast Go.Proofs.YtfiamddinkokbaaW.PrintMore
attribute [local go_sem] max2_int min2_int max_two min_two max_three min_three max_four min_four
set_option linter.unusedVariables false
set_option linter.unusedSimpArgs false
def stringslite_TrimSuffix.f (a0 : ByteArray) (a1 : ByteArray) : Option (ByteArray) := (stringslite_HasSuffix.f a0 a1).bind fun t351 => (if t351 = true then (if 0 ≤ (wrap64 ((a0.size : Int) - (a1.size : Int))) then (if (wrap64 ((a0.size : Int) - (a1.size : Int))) ≤ (a0.size : Int) then (some (a0.extract 0 ((wrap64 ((a0.size : Int) - (a1.size : Int))) : Int).toNat)) else (none)) else (none)) else (some a0))
set_option maxHeartbeats 8000000 in
set_option maxRecDepth 100000 in
theorem stringslite_TrimSuffix.calls (a0 : ByteArray) (a1 : ByteArray) (r : ByteArray) (w : World) (h : stringslite_TrimSuffix.f a0 a1 = some r) :
    Calls Try.prog 131 #[.string a0, .string a1] w fun e w' => e = .returned (.string r) ∧ Drawn0 w w' := by
  have H : ((stringslite_HasSuffix.f a0 a1).bind fun t351 => (if t351 = true then (if 0 ≤ (wrap64 ((a0.size : Int) - (a1.size : Int))) then (if (wrap64 ((a0.size : Int) - (a1.size : Int))) ≤ (a0.size : Int) then (some (a0.extract 0 ((wrap64 ((a0.size : Int) - (a1.size : Int))) : Int).toNat)) else (none)) else (none)) else (some a0))) = some r := h
  clear h
  replace H := Option.bind_eq_some_iff.mp H
  obtain ⟨t351, A30, H⟩ := H
  replace H : (if t351 = true then (if 0 ≤ (wrap64 ((a0.size : Int) - (a1.size : Int))) then (if (wrap64 ((a0.size : Int) - (a1.size : Int))) ≤ (a0.size : Int) then (some (a0.extract 0 ((wrap64 ((a0.size : Int) - (a1.size : Int))) : Int).toNat)) else (none)) else (none)) else (some a0)) = some r := H
  have A3 := Aside0.mk A30
  clear A30
  by_cases c4 : t351 = true
  · subst c4
    have H1 : (if 0 ≤ (wrap64 ((a0.size : Int) - (a1.size : Int))) then (if (wrap64 ((a0.size : Int) - (a1.size : Int))) ≤ (a0.size : Int) then (some (a0.extract 0 ((wrap64 ((a0.size : Int) - (a1.size : Int))) : Int).toNat)) else (none)) else (none)) = some r := by rw [if_pos rfl] at H; exact H
    clear H
    have H := H1
    clear H1
    obtain ⟨ji5, hji5⟩ : ∃ j_ : Int, (wrap64 ((a0.size : Int) - (a1.size : Int))) = j_ := ⟨_, rfl⟩
    replace H : (if 0 ≤ (ji5) then (if (ji5) ≤ (a0.size : Int) then (some (a0.extract 0 ((ji5) : Int).toNat)) else (none)) else (none)) = some r := by first | (rw [hji5] at H; exact H) | (simp only [hji5] at H ⊢; exact H)
    (try rw [hji5] at A3)
    have hji5w : (IntKind.i64.wrap ((a0.size : Int) - (a1.size : Int))) = ji5 := (i64_w _).trans hji5
    by_cases c6 : 0 ≤ (ji5)
    · rw [if_pos c6] at H
      have c6b0 := eq_true c6
      have c6b1 : decide (0 ≤ (ji5)) = true := decide_eq_true c6
      clear c6
      by_cases c7 : (ji5) ≤ (a0.size : Int)
      · rw [if_pos c7] at H
        have c7b0 := eq_true c7
        have c7b1 : decide ((ji5) ≤ (a0.size : Int)) = true := decide_eq_true c7
        clear c7
        obtain rfl := Option.some.inj H
        go_enter Try.func131, Try.ntmps131
        go_wp2_with (first | ((with_reducible refine gate_callee (f := 142) rfl ?_); refine goesL_ (some 7) rfl rfl Try.func142 (by kernel_rfl) rfl #[.string a0, .string a1] rfl (by (try simp only [List.map_toArray, List.map_cons, List.map_nil]); first | done | rfl | (simp only [List.length_drop, List.length_take]; rfl)) ?_; (with_reducible refine (stringslite_HasSuffix.calls a0 a1 true _ A3.out).mono ?_); rintro e w' ⟨rfl, ⟨nd, rfl⟩⟩; refine ⟨_, rfl, ?_⟩))
        go_ret
        exact ⟨by first | rfl | (simp; done) | (simp only [← hji5] <;> (first | rfl | simp)) | (simp [*]; done), by repeat (first | exact Drawn0.refl _ | apply Drawn0.step)⟩
      · rw [if_neg c7] at H
        exact absurd H (by simp)
    · rw [if_neg c6] at H
      exact absurd H (by simp)
  · replace c4 := Bool.eq_false_iff.mpr c4
    subst c4
    have H1 : (some a0) = some r := by rw [if_neg (show ¬ (false = true) by decide)] at H; exact H
    clear H
    have H := H1
    clear H1
    obtain rfl := Option.some.inj H
    go_enter Try.func131, Try.ntmps131
    go_wp2_with (first | ((with_reducible refine gate_callee (f := 142) rfl ?_); refine goesL_ (some 7) rfl rfl Try.func142 (by kernel_rfl) rfl #[.string a0, .string a1] rfl (by (try simp only [List.map_toArray, List.map_cons, List.map_nil]); first | done | rfl | (simp only [List.length_drop, List.length_take]; rfl)) ?_; (with_reducible refine (stringslite_HasSuffix.calls a0 a1 false _ A3.out).mono ?_); rintro e w' ⟨rfl, ⟨nd, rfl⟩⟩; refine ⟨_, rfl, ?_⟩))
    go_ret
    exact ⟨by first | rfl | (simp; done) | (simp [*]; done), by repeat (first | exact Drawn0.refl _ | apply Drawn0.step)⟩
end Go.Proofs.Ytfiamddinkokbaa.F
end

section
set_option linter.unusedVariables false
set_option linter.unusedSimpArgs false
namespace Go.Proofs.Ytfiamddinkokbaa.F
open Go.RowKit Go.Proofs.YtfiamddinkokbaaW.PrintWords Go.Proofs.YtfiamddinkokbaaW.PrintLast Go.Proofs.YtfiamddinkokbaaW.PrintMore
attribute [local go_sem] max2_int min2_int max_two min_two max_three min_three max_four min_four
set_option linter.unusedVariables false
set_option linter.unusedSimpArgs false
def strings_TrimSuffix.f (a0 : ByteArray) (a1 : ByteArray) : Option (ByteArray) := (stringslite_TrimSuffix.f a0 a1).bind fun t352 => (some t352)
set_option maxHeartbeats 8000000 in
set_option maxRecDepth 100000 in
theorem strings_TrimSuffix.calls (a0 : ByteArray) (a1 : ByteArray) (r : ByteArray) (w : World) (h : strings_TrimSuffix.f a0 a1 = some r) :
    Calls Try.prog 99 #[.string a0, .string a1] w fun e w' => e = .returned (.string r) ∧ Drawn0 w w' := by
  have H : ((stringslite_TrimSuffix.f a0 a1).bind fun t352 => (some t352)) = some r := h
  clear h
  replace H := Option.bind_eq_some_iff.mp H
  obtain ⟨t352, A30, H⟩ := H
  replace H : (some t352) = some r := H
  have A3 := Aside0.mk A30
  clear A30
  obtain rfl := Option.some.inj H
  go_enter Try.func99, Try.ntmps99
  go_wp2_with (first | ((with_reducible refine gate_callee (f := 131) rfl ?_); refine goesL_ (some 7) rfl rfl Try.func131 (by kernel_rfl) rfl #[.string a0, .string a1] rfl (by (try simp only [List.map_toArray, List.map_cons, List.map_nil]); first | done | rfl | (simp only [List.length_drop, List.length_take]; rfl)) ?_; (with_reducible refine (stringslite_TrimSuffix.calls a0 a1 t352 _ A3.out).mono ?_); rintro e w' ⟨rfl, ⟨nd, rfl⟩⟩; refine ⟨_, rfl, ?_⟩))
  go_ret
  exact ⟨by first | rfl | (simp; done) | (simp [*]; done), by repeat (first | exact Drawn0.refl _ | apply Drawn0.step)⟩
end Go.Proofs.Ytfiamddinkokbaa.F
end

section
set_option linter.unusedVariables false
set_option linter.unusedSimpArgs false
namespace Go.Proofs.Ytfiamddinkokbaa.F
open Go.RowKit Go.Proofs.YtfiamddinkokbaaW.PrintWords Go.Proofs.YtfiamddinkokbaaW.PrintLast Go.Proofs.YtfiamddinkokbaaW.PrintMore
attribute [local go_sem] max2_int min2_int max_two min_two max_three min_three max_four min_four
set_option linter.unusedVariables false
set_option linter.unusedSimpArgs false
def mark_Read.j0 : Nat → ByteArray → Int → Int → Bool → ByteArray → Option (Int × Bool × ByteArray × Bool × Int)
  | 0, _, _, _, _, _ => none
  | k + 1, x0, x1, x357000, x357001, x357002 => (mark_Marker_may.f x357000 x357001 x357002).bind fun t362 => (if t362 = true then ((mark_Marker_line.f x357000 x357001 x357002 x1).bind fun t363 => (if t363.toList = x0.toList then (some (x357000, x357001, x357002, true, 0)) else (some (0, false, (⟨#[]⟩ : ByteArray), false, 6)))) else (some (0, false, (⟨#[]⟩ : ByteArray), false, 6)))
def mark_Read.f (k : Nat) (a0 : ByteArray) (a1 : Int) : Option (Int × Bool × ByteArray × Bool × Int) := (mark_wide.f a1).bind fun t354 => (if t354 = true then ((lines_Run.f a0).bind fun t355 => (if t355 < a1 then (some (0, false, (⟨#[]⟩ : ByteArray), false, 0)) else (if 0 < (a0.size : Int) then (if 0 ≤ a1 then (if a1 ≤ (a0.size : Int) then ((strings_CutPrefix.f (a0.extract (a1 : Int).toNat a0.size) (⟨#[33]⟩ : ByteArray)).bind fun bt357 => ((strings_TrimSuffix.f bt357.1 (⟨#[10]⟩ : ByteArray)).bind fun t359 => ((strings_CutPrefix.f t359 (⟨#[32]⟩ : ByteArray)).bind fun bt360 => (if bt360.2 = true then (mark_Read.j0 k a0 a1 (bt a0 0) bt357.2 bt360.1) else (mark_Read.j0 k a0 a1 (bt a0 0) bt357.2 (⟨#[]⟩ : ByteArray)))))) else (none)) else (none)) else (none)))) else (some (0, false, (⟨#[]⟩ : ByteArray), false, 4)))
theorem mark_Read.mono_l : ∀ k, (∀ y0 y1 y2 y3 y4, LeO (mark_Read.j0 k y0 y1 y2 y3 y4) (mark_Read.j0 (k + 1) y0 y1 y2 y3 y4))
  | 0 => fun _ _ _ _ _ r h => by simp [mark_Read.j0] at h
  | k + 1 => by
    have ih0 := mark_Read.mono_l k
    · intro y0 y1 y2 y3 y4
      unfold mark_Read.j0
      repeat' first
      | (with_reducible exact ih0 _ _ _ _ _)
      | (with_reducible exact LeO.refl _)
      | (with_reducible exact LeO.none _)
      | (with_reducible refine LeO.ite ?_ ?_)
      | (with_reducible refine LeO.bind ?_ (fun _ => ?_))
      | exact ih0 _ _ _ _ _
      | exact LeO.none _
      | refine LeO.ite ?_ ?_
      | refine LeO.bind ?_ (fun _ => ?_)
theorem mark_Read.mono : ∀ a0 a1 k, LeO (mark_Read.f k a0 a1) (mark_Read.f (k + 1) a0 a1) := by
  intro a0 a1 k
  have ih0 := mark_Read.mono_l k
  unfold mark_Read.f
  repeat' first
      | (with_reducible exact ih0 _ _ _ _ _)
      | (with_reducible exact LeO.refl _)
      | (with_reducible exact LeO.none _)
      | (with_reducible refine LeO.ite ?_ ?_)
      | (with_reducible refine LeO.bind ?_ (fun _ => ?_))
      | exact ih0 _ _ _ _ _
      | exact LeO.none _
      | refine LeO.ite ?_ ?_
      | refine LeO.bind ?_ (fun _ => ?_)
set_option maxHeartbeats 8000000 in
set_option maxRecDepth 100000 in
theorem mark_Read.calls (k : Nat) (a0 : ByteArray) (a1 : Int) (r1 : Int) (r2 : Bool) (r3 : ByteArray) (r4 : Bool) (r5 : Int) (w : World) (h : mark_Read.f k a0 a1 = some (r1, r2, r3, r4, r5)) :
    Calls Try.prog 52 #[.string a0, .int .i64 a1] w fun e w' => e = .returned (.tuple #[.agg #[.int .u8 r1, .bool r2, .string r3], .bool r4, .int .i64 r5]) ∧ Below w.heap.size w w' := by
  have hu62 := Try.underlying62
  have HB := Aside0.mk (Below.refl w.heap.size w)
  have H : ((mark_wide.f a1).bind fun t354 => (if t354 = true then ((lines_Run.f a0).bind fun t355 => (if t355 < a1 then (some (0, false, (⟨#[]⟩ : ByteArray), false, 0)) else (if 0 < (a0.size : Int) then (if 0 ≤ a1 then (if a1 ≤ (a0.size : Int) then ((strings_CutPrefix.f (a0.extract (a1 : Int).toNat a0.size) (⟨#[33]⟩ : ByteArray)).bind fun bt357 => ((strings_TrimSuffix.f bt357.1 (⟨#[10]⟩ : ByteArray)).bind fun t359 => ((strings_CutPrefix.f t359 (⟨#[32]⟩ : ByteArray)).bind fun bt360 => (if bt360.2 = true then (mark_Read.j0 k a0 a1 (bt a0 0) bt357.2 bt360.1) else (mark_Read.j0 k a0 a1 (bt a0 0) bt357.2 (⟨#[]⟩ : ByteArray)))))) else (none)) else (none)) else (none)))) else (some (0, false, (⟨#[]⟩ : ByteArray), false, 4)))) = some (r1, r2, r3, r4, r5) := h
  clear h
  replace H := Option.bind_eq_some_iff.mp H
  obtain ⟨t354, A30, H⟩ := H
  replace H : (if t354 = true then ((lines_Run.f a0).bind fun t355 => (if t355 < a1 then (some (0, false, (⟨#[]⟩ : ByteArray), false, 0)) else (if 0 < (a0.size : Int) then (if 0 ≤ a1 then (if a1 ≤ (a0.size : Int) then ((strings_CutPrefix.f (a0.extract (a1 : Int).toNat a0.size) (⟨#[33]⟩ : ByteArray)).bind fun bt357 => ((strings_TrimSuffix.f bt357.1 (⟨#[10]⟩ : ByteArray)).bind fun t359 => ((strings_CutPrefix.f t359 (⟨#[32]⟩ : ByteArray)).bind fun bt360 => (if bt360.2 = true then (mark_Read.j0 k a0 a1 (bt a0 0) bt357.2 bt360.1) else (mark_Read.j0 k a0 a1 (bt a0 0) bt357.2 (⟨#[]⟩ : ByteArray)))))) else (none)) else (none)) else (none)))) else (some (0, false, (⟨#[]⟩ : ByteArray), false, 4))) = some (r1, r2, r3, r4, r5) := H
  have A3 := Aside0.mk A30
  clear A30
  by_cases c4 : t354 = true
  · subst c4
    have H1 : ((lines_Run.f a0).bind fun t355 => (if t355 < a1 then (some (0, false, (⟨#[]⟩ : ByteArray), false, 0)) else (if 0 < (a0.size : Int) then (if 0 ≤ a1 then (if a1 ≤ (a0.size : Int) then ((strings_CutPrefix.f (a0.extract (a1 : Int).toNat a0.size) (⟨#[33]⟩ : ByteArray)).bind fun bt357 => ((strings_TrimSuffix.f bt357.1 (⟨#[10]⟩ : ByteArray)).bind fun t359 => ((strings_CutPrefix.f t359 (⟨#[32]⟩ : ByteArray)).bind fun bt360 => (if bt360.2 = true then (mark_Read.j0 k a0 a1 (bt a0 0) bt357.2 bt360.1) else (mark_Read.j0 k a0 a1 (bt a0 0) bt357.2 (⟨#[]⟩ : ByteArray)))))) else (none)) else (none)) else (none)))) = some (r1, r2, r3, r4, r5) := by rw [if_pos rfl] at H; exact H
    clear H
    have H := H1
    clear H1
    replace H := Option.bind_eq_some_iff.mp H
    obtain ⟨t355, A50, H⟩ := H
    replace H : (if t355 < a1 then (some (0, false, (⟨#[]⟩ : ByteArray), false, 0)) else (if 0 < (a0.size : Int) then (if 0 ≤ a1 then (if a1 ≤ (a0.size : Int) then ((strings_CutPrefix.f (a0.extract (a1 : Int).toNat a0.size) (⟨#[33]⟩ : ByteArray)).bind fun bt357 => ((strings_TrimSuffix.f bt357.1 (⟨#[10]⟩ : ByteArray)).bind fun t359 => ((strings_CutPrefix.f t359 (⟨#[32]⟩ : ByteArray)).bind fun bt360 => (if bt360.2 = true then (mark_Read.j0 k a0 a1 (bt a0 0) bt357.2 bt360.1) else (mark_Read.j0 k a0 a1 (bt a0 0) bt357.2 (⟨#[]⟩ : ByteArray)))))) else (none)) else (none)) else (none))) = some (r1, r2, r3, r4, r5) := H
    have A5 := Aside0.mk A50
    clear A50
    by_cases c6 : t355 < a1
    · rw [if_pos c6] at H
      have c6b0 : decide (t355 < a1) = true := decide_eq_true c6
      clear c6
      simp only [Option.some.injEq, Prod.mk.injEq] at H
      obtain ⟨rfl, rfl, rfl, rfl, rfl⟩ := H
      go_enter Try.func52, Try.ntmps52
      go_wp2_with (first | ((with_reducible refine gate_dst (N := 4) rfl ?_); refine box_event ?hg (N := 4) ?hd (cs := #[.int .u8 0, .bool false, .string (⟨#[]⟩ : ByteArray)]) (t := 62) ?hr ?_; (case hd => rfl); (case hg => rfl); (case hr => first | (go_simp; done) | (go_simp; rfl)); intro gb353 hg w7 hbox hb; have n0_ := Aside0.mk (below_step (by repeat (first | (with_reducible first | exact HB.out | apply below_alloc | apply pw_below_drewN | apply below_drew1) | exact HB.out)) hb); have n1_ := Aside0.mk (hbox); have n2_ := Aside0.mk ((by rw [hg]; exact (below_size (by repeat (first | (with_reducible first | exact HB.out | apply below_alloc | apply pw_below_drewN | apply below_drew1) | exact HB.out))) : w.heap.size ≤ gb353)); have n3_ := Aside0.mk ((by rw [hg]; exact (below_size (by repeat (first | (with_reducible first | exact HB.out | apply below_alloc | apply pw_below_drewN | apply below_drew1) | exact HB.out))) : w.heap.size ≤ gb353)); clear HB; have HB := n0_; have BK353 := n1_; have GW353 := n2_; have GE353 := n3_; clear n0_ n1_ n2_ n3_; clear hb hbox hg) | ((with_reducible refine gate_callee (f := 86) rfl ?_); refine goesL_ (some 13) rfl rfl Try.func86 (by kernel_rfl) rfl #[.int .i64 a1] rfl (by (try simp only [List.map_toArray, List.map_cons, List.map_nil]); first | done | rfl | (simp only [List.length_drop, List.length_take]; rfl)) ?_; (with_reducible refine (mark_wide.calls a1 true _ A3.out).mono ?_); rintro e w' ⟨rfl, ⟨nd, rfl⟩⟩; refine ⟨_, rfl, ?_⟩; (try (rw [drewN_self w7]; generalize hq_ : World.drewN w7 _ = w7; have n0_ : Aside0 (w7.heap[gb353]? = some (.cells #[.int .u8 0, .bool false, .string (⟨#[]⟩ : ByteArray)] 62 (0, 0))) := ⟨by rw [← hq_]; exact (by (with_reducible repeat (first | refine blk_drewN ?_ _ | refine blk_drew ?_ | refine blk_alloc ?_ _)); exact BK353.out)⟩; have n1_ : Aside0 (Below w.heap.size w w7) := ⟨by rw [← hq_]; exact (by repeat (first | (with_reducible first | exact HB.out | apply below_alloc | apply pw_below_drewN | apply below_drew1 | refine below_set ?_ GE353.out) | exact HB.out))⟩; clear BK353 HB hq_; have BK353 := n0_; have HB := n1_; clear n0_ n1_))) | ((with_reducible refine gate_callee (f := 43) rfl ?_); refine goesL_ (some 18) rfl rfl Try.func43 (by kernel_rfl) rfl #[.string a0] rfl (by (try simp only [List.map_toArray, List.map_cons, List.map_nil]); first | done | rfl | (simp only [List.length_drop, List.length_take]; rfl)) ?_; (with_reducible refine (lines_Run.calls a0 t355 _ A5.out).mono ?_); rintro e w8 ⟨rfl, hb⟩; refine ⟨_, rfl, ?_⟩; have n0_ := Aside0.mk (blk_below (g := gb353) (o := .cells #[.int .u8 0, .bool false, .string (⟨#[]⟩ : ByteArray)] 62 (0, 0)) (by (with_reducible repeat (first | refine blk_drewN ?_ _ | refine blk_drew ?_ | refine blk_alloc ?_ _)); exact BK353.out) hb); have n1_ := Aside0.mk (below_step (by repeat (first | (with_reducible first | exact HB.out | apply below_alloc | apply pw_below_drewN | apply below_drew1 | refine below_set ?_ GE353.out) | exact HB.out)) hb); clear BK353; clear HB; have BK353 := n0_; have HB := n1_; clear n0_ n1_; (try clear hb); (try clear hb2); (try clear hk); (try clear hi); have hcz9_0 : w8.cell? ⟨gb353, 0, none⟩ = some (.int .u8 0) := (blk_cell BK353.out 0).trans rfl; have hcz9_1 : w8.cell? ⟨gb353, 1, none⟩ = some (.bool false) := (blk_cell BK353.out 1).trans rfl; have hcz9_2 : w8.cell? ⟨gb353, 2, none⟩ = some (.string (⟨#[]⟩ : ByteArray)) := (blk_cell BK353.out 2).trans rfl; have hfz9_0 := blk_frozen BK353.out 0; have hfz9_1 := blk_frozen BK353.out 1; have hfz9_2 := blk_frozen BK353.out 2))
      refine bodyPost_ret (results_ctt rfl _ _ gb353 62 #[.int .u8 0, .bool false, .string (⟨#[]⟩ : ByteArray)] (0, 0) _ rfl (by (with_reducible repeat (first | refine blk_drewN ?_ _ | refine blk_drew ?_ | refine blk_alloc ?_ _)); refine blk_put (cs := #[.int .u8 0, .bool false, .string (⟨#[]⟩ : ByteArray)]) ?_ 2 _ rfl; (with_reducible repeat (first | refine blk_drewN ?_ _ | refine blk_drew ?_ | refine blk_alloc ?_ _)); refine blk_put (cs := #[.int .u8 0, .bool false, .string (⟨#[]⟩ : ByteArray)]) ?_ 1 _ rfl; (with_reducible repeat (first | refine blk_drewN ?_ _ | refine blk_drew ?_ | refine blk_alloc ?_ _)); refine blk_put (cs := #[.int .u8 0, .bool false, .string (⟨#[]⟩ : ByteArray)]) ?_ 0 _ rfl; (with_reducible repeat (first | refine blk_drewN ?_ _ | refine blk_drew ?_ | refine blk_alloc ?_ _)); exact BK353.out) Try.underlying62 rfl (by kernel_rfl)) rfl ?_
      exact ⟨by first | rfl | (simp [errW_none, errW_some] <;> rfl) | (simp [*, errW_none, errW_some] <;> rfl), by repeat (first | (with_reducible first | exact HB.out | apply below_alloc | apply pw_below_drewN | apply below_drew1 | refine below_set ?_ GE353.out) | exact HB.out)⟩
    · rw [if_neg c6] at H
      have c6b0 : decide (t355 < a1) = false := decide_eq_false c6
      clear c6
      by_cases c10 : 0 < (a0.size : Int)
      · rw [if_pos c10] at H
        have c10b0 : decide (0 < (a0.size : Int)) = true := decide_eq_true c10
        have c10b1 : decide (0 < a0.size) = true := decide_eq_true (by omega)
        clear c10
        by_cases c12 : 0 ≤ a1
        · rw [if_pos c12] at H
          have c12b0 := eq_true c12
          have c12b1 : decide (0 ≤ a1) = true := decide_eq_true c12
          clear c12
          by_cases c13 : a1 ≤ (a0.size : Int)
          · rw [if_pos c13] at H
            have c13b0 := eq_true c13
            have c13b1 : decide (a1 ≤ (a0.size : Int)) = true := decide_eq_true c13
            clear c13
            replace H := Option.bind_eq_some_iff.mp H
            obtain ⟨⟨t357, t358⟩, A140, H⟩ := H
            replace H : ((strings_TrimSuffix.f t357 (⟨#[10]⟩ : ByteArray)).bind fun t359 => ((strings_CutPrefix.f t359 (⟨#[32]⟩ : ByteArray)).bind fun bt360 => (if bt360.2 = true then (mark_Read.j0 k a0 a1 (bt a0 0) t358 bt360.1) else (mark_Read.j0 k a0 a1 (bt a0 0) t358 (⟨#[]⟩ : ByteArray))))) = some (r1, r2, r3, r4, r5) := H
            have A14 := Aside0.mk A140
            clear A140
            replace H := Option.bind_eq_some_iff.mp H
            obtain ⟨t359, A150, H⟩ := H
            replace H : ((strings_CutPrefix.f t359 (⟨#[32]⟩ : ByteArray)).bind fun bt360 => (if bt360.2 = true then (mark_Read.j0 k a0 a1 (bt a0 0) t358 bt360.1) else (mark_Read.j0 k a0 a1 (bt a0 0) t358 (⟨#[]⟩ : ByteArray)))) = some (r1, r2, r3, r4, r5) := H
            have A15 := Aside0.mk A150
            clear A150
            replace H := Option.bind_eq_some_iff.mp H
            obtain ⟨⟨t360, t361⟩, A160, H⟩ := H
            replace H : (if t361 = true then (mark_Read.j0 k a0 a1 (bt a0 0) t358 t360) else (mark_Read.j0 k a0 a1 (bt a0 0) t358 (⟨#[]⟩ : ByteArray))) = some (r1, r2, r3, r4, r5) := H
            have A16 := Aside0.mk A160
            clear A160
            have HC17 := Aside0.mk H
            clear H
            go_enter Try.func52, Try.ntmps52
            go_upto_if 40 with (first | ((with_reducible refine gate_dst (N := 4) rfl ?_); refine box_event ?hg (N := 4) ?hd (cs := #[.int .u8 0, .bool false, .string (⟨#[]⟩ : ByteArray)]) (t := 62) ?hr ?_; (case hd => rfl); (case hg => rfl); (case hr => first | (go_simp; done) | (go_simp; rfl)); intro gb353 hg w18 hbox hb; have n0_ := Aside0.mk (below_step (by repeat (first | (with_reducible first | exact HB.out | apply below_alloc | apply pw_below_drewN | apply below_drew1) | exact HB.out)) hb); have n1_ := Aside0.mk (hbox); have n2_ := Aside0.mk ((by rw [hg]; exact (below_size (by repeat (first | (with_reducible first | exact HB.out | apply below_alloc | apply pw_below_drewN | apply below_drew1) | exact HB.out))) : w.heap.size ≤ gb353)); have n3_ := Aside0.mk ((by rw [hg]; exact (below_size (by repeat (first | (with_reducible first | exact HB.out | apply below_alloc | apply pw_below_drewN | apply below_drew1) | exact HB.out))) : w.heap.size ≤ gb353)); clear HB; have HB := n0_; have BK353 := n1_; have GW353 := n2_; have GE353 := n3_; clear n0_ n1_ n2_ n3_; clear hb hbox hg) | ((with_reducible refine gate_callee (f := 86) rfl ?_); refine goesL_ (some 13) rfl rfl Try.func86 (by kernel_rfl) rfl #[.int .i64 a1] rfl (by (try simp only [List.map_toArray, List.map_cons, List.map_nil]); first | done | rfl | (simp only [List.length_drop, List.length_take]; rfl)) ?_; (with_reducible refine (mark_wide.calls a1 true _ A3.out).mono ?_); rintro e w' ⟨rfl, ⟨nd, rfl⟩⟩; refine ⟨_, rfl, ?_⟩; (try (rw [drewN_self w18]; generalize hq_ : World.drewN w18 _ = w18; have n0_ : Aside0 (w18.heap[gb353]? = some (.cells #[.int .u8 0, .bool false, .string (⟨#[]⟩ : ByteArray)] 62 (0, 0))) := ⟨by rw [← hq_]; exact (by (with_reducible repeat (first | refine blk_drewN ?_ _ | refine blk_drew ?_ | refine blk_alloc ?_ _)); exact BK353.out)⟩; have n1_ : Aside0 (Below w.heap.size w w18) := ⟨by rw [← hq_]; exact (by repeat (first | (with_reducible first | exact HB.out | apply below_alloc | apply pw_below_drewN | apply below_drew1 | refine below_set ?_ GE353.out) | exact HB.out))⟩; clear BK353 HB hq_; have BK353 := n0_; have HB := n1_; clear n0_ n1_))) | ((with_reducible refine gate_callee (f := 43) rfl ?_); refine goesL_ (some 18) rfl rfl Try.func43 (by kernel_rfl) rfl #[.string a0] rfl (by (try simp only [List.map_toArray, List.map_cons, List.map_nil]); first | done | rfl | (simp only [List.length_drop, List.length_take]; rfl)) ?_; (with_reducible refine (lines_Run.calls a0 t355 _ A5.out).mono ?_); rintro e w19 ⟨rfl, hb⟩; refine ⟨_, rfl, ?_⟩; have n0_ := Aside0.mk (blk_below (g := gb353) (o := .cells #[.int .u8 0, .bool false, .string (⟨#[]⟩ : ByteArray)] 62 (0, 0)) (by (with_reducible repeat (first | refine blk_drewN ?_ _ | refine blk_drew ?_ | refine blk_alloc ?_ _)); exact BK353.out) hb); have n1_ := Aside0.mk (below_step (by repeat (first | (with_reducible first | exact HB.out | apply below_alloc | apply pw_below_drewN | apply below_drew1 | refine below_set ?_ GE353.out) | exact HB.out)) hb); clear BK353; clear HB; have BK353 := n0_; have HB := n1_; clear n0_ n1_; (try clear hb); (try clear hb2); (try clear hk); (try clear hi); have p11 : 0 ≤ (0 : Int) := (by omega); have q11 : 0 < a0.size := (by have : (0 : Int) < (a0.size : Int) := of_decide_eq_true (by first | (with_reducible assumption) | assumption); omega); have hx11 : ∀ h : 0 < a0.size, ((a0[0]'h).toNat : Int) = bt a0 0 := bt_at a0 0; clear p11; have qi11 : (0 < (a0.size : Int)) = True := eq_true (of_decide_eq_true (by first | (with_reducible assumption) | assumption)); replace q11 := eq_true q11) | ((with_reducible refine gate_dst (N := 7) rfl ?_); refine box_event ?hg (N := 7) ?hd (cs := #[.int .u8 0, .bool false, .string (⟨#[]⟩ : ByteArray)]) (t := 62) ?hr ?_; (case hd => rfl); (case hg => rfl); (case hr => first | (go_simp; done) | (go_simp; rfl)); intro gb356 hg w20 hbox hb; have n0_ := Aside0.mk (blk_below (g := gb353) (o := .cells #[.int .u8 0, .bool false, .string (⟨#[]⟩ : ByteArray)] 62 (0, 0)) (by (with_reducible repeat (first | refine blk_drewN ?_ _ | refine blk_drew ?_ | refine blk_alloc ?_ _)); exact BK353.out) hb); have n1_ := Aside0.mk (below_step (by repeat (first | (with_reducible first | exact HB.out | apply below_alloc | apply pw_below_drewN | apply below_drew1 | refine below_set ?_ GE353.out) | exact HB.out)) hb); have n2_ := Aside0.mk (hbox); have n3_ := Aside0.mk ((by rw [hg]; exact (below_size (by repeat (first | (with_reducible first | exact HB.out | apply below_alloc | apply pw_below_drewN | apply below_drew1 | refine below_set ?_ GE353.out) | exact HB.out))) : w.heap.size ≤ gb356)); have n4_ := Aside0.mk ((by rw [hg]; exact (below_size (by repeat (first | (with_reducible first | exact HB.out | apply below_alloc | apply pw_below_drewN | apply below_drew1 | refine below_set ?_ GE353.out) | exact HB.out))) : w.heap.size ≤ gb356)); have n5_ := Aside0.mk ((by rw [hg]; exact Nat.ne_of_lt (blk_lt (g := gb353) (o := .cells #[.int .u8 0, .bool false, .string (⟨#[]⟩ : ByteArray)] 62 (0, 0)) (by (with_reducible repeat (first | refine blk_drewN ?_ _ | refine blk_drew ?_ | refine blk_alloc ?_ _)); exact BK353.out)) : gb353 ≠ gb356)); have n6_ := Aside0.mk ((by rw [hg]; exact Nat.ne_of_gt (blk_lt (g := gb353) (o := .cells #[.int .u8 0, .bool false, .string (⟨#[]⟩ : ByteArray)] 62 (0, 0)) (by (with_reducible repeat (first | refine blk_drewN ?_ _ | refine blk_drew ?_ | refine blk_alloc ?_ _)); exact BK353.out)) : gb356 ≠ gb353)); clear BK353; clear HB; have BK353 := n0_; have HB := n1_; have BK356 := n2_; have GW356 := n3_; have GE356 := n4_; have NB353_356 := n5_; have NB356_353 := n6_; clear n0_ n1_ n2_ n3_ n4_ n5_ n6_; clear hb hbox hg; have hnb21 := NB356_353.out; have hnc21 := NB353_356.out; have hcz22_0 : w20.cell? ⟨gb356, 0, none⟩ = some (.int .u8 0) := (blk_cell BK356.out 0).trans rfl; have hcz22_1 : w20.cell? ⟨gb356, 1, none⟩ = some (.bool false) := (blk_cell BK356.out 1).trans rfl; have hcz22_2 : w20.cell? ⟨gb356, 2, none⟩ = some (.string (⟨#[]⟩ : ByteArray)) := (blk_cell BK356.out 2).trans rfl; have hfz22_0 := blk_frozen BK356.out 0; have hfz22_1 := blk_frozen BK356.out 1; have hfz22_2 := blk_frozen BK356.out 2) | ((with_reducible refine gate_callee (f := 98) rfl ?_); refine goesL_ (some 30) rfl rfl Try.func98 (by kernel_rfl) rfl #[.string (a0.extract (a1 : Int).toNat a0.size), .string (⟨#[33]⟩ : ByteArray)] rfl (by (try simp only [List.map_toArray, List.map_cons, List.map_nil]); first | done | rfl | (simp only [List.length_drop, List.length_take]; rfl)) ?_; (with_reducible refine (strings_CutPrefix.calls (a0.extract (a1 : Int).toNat a0.size) (⟨#[33]⟩ : ByteArray) t357 t358 _ A14.out).mono ?_); rintro e w' ⟨rfl, ⟨nd, rfl⟩⟩; refine ⟨_, rfl, ?_⟩) | ((with_reducible refine gate_callee (f := 99) rfl ?_); refine goesL_ (some 36) rfl rfl Try.func99 (by kernel_rfl) rfl #[.string t357, .string (⟨#[10]⟩ : ByteArray)] rfl (by (try simp only [List.map_toArray, List.map_cons, List.map_nil]); first | done | rfl | (simp only [List.length_drop, List.length_take]; rfl)) ?_; (with_reducible refine (strings_TrimSuffix.calls t357 (⟨#[10]⟩ : ByteArray) t359 _ A15.out).mono ?_); rintro e w' ⟨rfl, ⟨nd, rfl⟩⟩; refine ⟨_, rfl, ?_⟩) | ((with_reducible refine gate_callee (f := 98) rfl ?_); refine goesL_ (some 37) rfl rfl Try.func98 (by kernel_rfl) rfl #[.string t359, .string (⟨#[32]⟩ : ByteArray)] rfl (by (try simp only [List.map_toArray, List.map_cons, List.map_nil]); first | done | rfl | (simp only [List.length_drop, List.length_take]; rfl)) ?_; (with_reducible refine (strings_CutPrefix.calls t359 (⟨#[32]⟩ : ByteArray) t360 t361 _ A16.out).mono ?_); rintro e w' ⟨rfl, ⟨nd, rfl⟩⟩; refine ⟨_, rfl, ?_⟩))
            (try simp only [Act.put, List.setIfInBounds_toArray, List.set_cons_zero, List.set_cons_succ])
            go_cut [] (fun wc => ∃ (kq : Nat) (x357002_16 : ByteArray), Aside0 (mark_Read.j0 kq a0 a1 (bt a0 0) t358 x357002_16 = some (r1, r2, r3, r4, r5)) ∧ Aside0 (kq ≤ k) ∧ Aside0 (wc.heap[gb353]? = some (.cells #[.int .u8 0, .bool false, .string (⟨#[]⟩ : ByteArray)] 62 (0, 0))) ∧ Aside0 (wc.heap[gb356]? = some (.cells #[.int .u8 (bt a0 0), .bool t358, .string x357002_16] 62 (0, 0))) ∧ Aside0 (Below w.heap.size w wc))
            case first =>
              have H := HC17.out
              clear HC17
              by_cases c23 : t361 = true
              · subst c23
                have H1 : (mark_Read.j0 k a0 a1 (bt a0 0) t358 t360) = some (r1, r2, r3, r4, r5) := by rw [if_pos rfl] at H; exact H
                clear H
                have H := H1
                clear H1
                have H' := Aside0.mk H
                clear H
                have hnb24 := NB356_353.out
                have hnc24 := NB353_356.out
                have hcz25_0 : w20.cell? ⟨gb356, 0, none⟩ = some (.int .u8 0) := (blk_cell BK356.out 0).trans rfl
                have hcz25_1 : w20.cell? ⟨gb356, 1, none⟩ = some (.bool false) := (blk_cell BK356.out 1).trans rfl
                have hcz25_2 : w20.cell? ⟨gb356, 2, none⟩ = some (.string (⟨#[]⟩ : ByteArray)) := (blk_cell BK356.out 2).trans rfl
                have hfz25_0 := blk_frozen BK356.out 0
                have hfz25_1 := blk_frozen BK356.out 1
                have hfz25_2 := blk_frozen BK356.out 2
                go_wp2
                go_meet
                case rel => exact ⟨_, (t360), H', ⟨by first | omega | exact Nat.le_refl _⟩, ⟨by (with_reducible repeat (first | refine blk_drewN ?_ _ | refine blk_drew ?_ | refine blk_alloc ?_ _)); refine blk_far ?_ NB353_356.out _; (with_reducible repeat (first | refine blk_drewN ?_ _ | refine blk_drew ?_ | refine blk_alloc ?_ _)); refine blk_far ?_ NB353_356.out _; (with_reducible repeat (first | refine blk_drewN ?_ _ | refine blk_drew ?_ | refine blk_alloc ?_ _)); refine blk_far ?_ NB353_356.out _; (with_reducible repeat (first | refine blk_drewN ?_ _ | refine blk_drew ?_ | refine blk_alloc ?_ _)); refine blk_far ?_ NB353_356.out _; (with_reducible repeat (first | refine blk_drewN ?_ _ | refine blk_drew ?_ | refine blk_alloc ?_ _)); refine blk_far ?_ NB353_356.out _; (with_reducible repeat (first | refine blk_drewN ?_ _ | refine blk_drew ?_ | refine blk_alloc ?_ _)); exact BK353.out⟩, ⟨by (with_reducible repeat (first | refine blk_drewN ?_ _ | refine blk_drew ?_ | refine blk_alloc ?_ _)); refine blk_put (cs := #[.int .u8 (bt a0 0), .bool t358, .string (⟨#[]⟩ : ByteArray)]) ?_ 2 _ rfl; (with_reducible repeat (first | refine blk_drewN ?_ _ | refine blk_drew ?_ | refine blk_alloc ?_ _)); refine blk_put (cs := #[.int .u8 (bt a0 0), .bool false, .string (⟨#[]⟩ : ByteArray)]) ?_ 1 _ rfl; (with_reducible repeat (first | refine blk_drewN ?_ _ | refine blk_drew ?_ | refine blk_alloc ?_ _)); refine blk_put (cs := #[.int .u8 (bt a0 0), .bool false, .string (⟨#[]⟩ : ByteArray)]) ?_ 2 _ rfl; (with_reducible repeat (first | refine blk_drewN ?_ _ | refine blk_drew ?_ | refine blk_alloc ?_ _)); refine blk_put (cs := #[.int .u8 (bt a0 0), .bool false, .string (⟨#[]⟩ : ByteArray)]) ?_ 1 _ rfl; (with_reducible repeat (first | refine blk_drewN ?_ _ | refine blk_drew ?_ | refine blk_alloc ?_ _)); refine blk_put (cs := #[.int .u8 0, .bool false, .string (⟨#[]⟩ : ByteArray)]) ?_ 0 _ rfl; (with_reducible repeat (first | refine blk_drewN ?_ _ | refine blk_drew ?_ | refine blk_alloc ?_ _)); exact BK356.out⟩, ⟨by repeat (first | (with_reducible first | exact HB.out | apply below_alloc | apply pw_below_drewN | apply below_drew1 | refine below_set ?_ GE353.out | refine below_set ?_ GE356.out) | exact HB.out)⟩⟩
              · replace c23 := Bool.eq_false_iff.mpr c23
                subst c23
                have H1 : (mark_Read.j0 k a0 a1 (bt a0 0) t358 (⟨#[]⟩ : ByteArray)) = some (r1, r2, r3, r4, r5) := by rw [if_neg (show ¬ (false = true) by decide)] at H; exact H
                clear H
                have H := H1
                clear H1
                have H' := Aside0.mk H
                clear H
                go_wp2
                go_meet
                case rel => exact ⟨_, ((⟨#[]⟩ : ByteArray)), H', ⟨by first | omega | exact Nat.le_refl _⟩, ⟨by (with_reducible repeat (first | refine blk_drewN ?_ _ | refine blk_drew ?_ | refine blk_alloc ?_ _)); refine blk_far ?_ NB353_356.out _; (with_reducible repeat (first | refine blk_drewN ?_ _ | refine blk_drew ?_ | refine blk_alloc ?_ _)); refine blk_far ?_ NB353_356.out _; (with_reducible repeat (first | refine blk_drewN ?_ _ | refine blk_drew ?_ | refine blk_alloc ?_ _)); refine blk_far ?_ NB353_356.out _; (with_reducible repeat (first | refine blk_drewN ?_ _ | refine blk_drew ?_ | refine blk_alloc ?_ _)); refine blk_far ?_ NB353_356.out _; (with_reducible repeat (first | refine blk_drewN ?_ _ | refine blk_drew ?_ | refine blk_alloc ?_ _)); exact BK353.out⟩, ⟨by (with_reducible repeat (first | refine blk_drewN ?_ _ | refine blk_drew ?_ | refine blk_alloc ?_ _)); refine blk_put (cs := #[.int .u8 (bt a0 0), .bool false, .string (⟨#[]⟩ : ByteArray)]) ?_ 1 _ rfl; (with_reducible repeat (first | refine blk_drewN ?_ _ | refine blk_drew ?_ | refine blk_alloc ?_ _)); refine blk_put (cs := #[.int .u8 (bt a0 0), .bool false, .string (⟨#[]⟩ : ByteArray)]) ?_ 2 _ rfl; (with_reducible repeat (first | refine blk_drewN ?_ _ | refine blk_drew ?_ | refine blk_alloc ?_ _)); refine blk_put (cs := #[.int .u8 (bt a0 0), .bool false, .string (⟨#[]⟩ : ByteArray)]) ?_ 1 _ rfl; (with_reducible repeat (first | refine blk_drewN ?_ _ | refine blk_drew ?_ | refine blk_alloc ?_ _)); refine blk_put (cs := #[.int .u8 0, .bool false, .string (⟨#[]⟩ : ByteArray)]) ?_ 0 _ rfl; (with_reducible repeat (first | refine blk_drewN ?_ _ | refine blk_drew ?_ | refine blk_alloc ?_ _)); exact BK356.out⟩, ⟨by repeat (first | (with_reducible first | exact HB.out | apply below_alloc | apply pw_below_drewN | apply below_drew1 | refine below_set ?_ GE353.out | refine below_set ?_ GE356.out) | exact HB.out)⟩⟩
            case rest =>
              clear HC17
              try clear c1
              try clear p1
              try clear q1
              try clear hx1
              try clear qi1
              try clear c2
              try clear p2
              try clear c4
              try clear c5
              try clear c6
              try clear c6b0
              try clear c8
              try clear c9
              try clear c10
              try clear c10b0
              try clear c10b1
              try clear p11
              try clear q11
              try clear hx11
              try clear qi11
              try clear c12
              try clear c12b0
              try clear c12b1
              try clear c13
              try clear c13b0
              try clear c13b1
              try clear c21
              try clear c23
              try clear c24
              try clear hcz22_0
              try clear hcz22_1
              try clear hcz22_2
              try clear hcz25_0
              try clear hcz25_1
              try clear hcz25_2
              try clear hcz9_0
              try clear hcz9_1
              try clear hcz9_2
              try clear hfz22_0
              try clear hfz22_1
              try clear hfz22_2
              try clear hfz25_0
              try clear hfz25_1
              try clear hfz25_2
              try clear hfz9_0
              try clear hfz9_1
              try clear hfz9_2
              try clear p11
              try clear q11
              obtain ⟨kq, x357002_16, HA, HJ16, BK353, BK356, HB⟩ := hcut
              cases kq with
              | zero => exact absurd HA.out (by simp [mark_Read.j0])
              | succ kj16 =>
                have H := HA.out
                clear HA
                simp only [mark_Read.j0] at H
                replace H := Option.bind_eq_some_iff.mp H
                obtain ⟨t362, A260, H⟩ := H
                replace H : (if t362 = true then ((mark_Marker_line.f (bt a0 0) t358 x357002_16 a1).bind fun t363 => (if t363.toList = a0.toList then (some ((bt a0 0), t358, x357002_16, true, 0)) else (some (0, false, (⟨#[]⟩ : ByteArray), false, 6)))) else (some (0, false, (⟨#[]⟩ : ByteArray), false, 6))) = some (r1, r2, r3, r4, r5) := H
                have A26 := Aside0.mk A260
                clear A260
                by_cases c27 : t362 = true
                · subst c27
                  have H1 : ((mark_Marker_line.f (bt a0 0) t358 x357002_16 a1).bind fun t363 => (if t363.toList = a0.toList then (some ((bt a0 0), t358, x357002_16, true, 0)) else (some (0, false, (⟨#[]⟩ : ByteArray), false, 6)))) = some (r1, r2, r3, r4, r5) := by rw [if_pos rfl] at H; exact H
                  clear H
                  have H := H1
                  clear H1
                  replace H := Option.bind_eq_some_iff.mp H
                  obtain ⟨t363, A280, H⟩ := H
                  replace H : (if t363.toList = a0.toList then (some ((bt a0 0), t358, x357002_16, true, 0)) else (some (0, false, (⟨#[]⟩ : ByteArray), false, 6))) = some (r1, r2, r3, r4, r5) := H
                  have A28 := Aside0.mk A280
                  clear A280
                  by_cases c29 : t363.toList = a0.toList
                  · rw [if_pos c29] at H
                    have c29b0 : (t363.toList == a0.toList) = true := beq_iff_eq.mpr c29
                    have c29b1 : (t363.toList != a0.toList) = false := bne_eq_false_iff_eq.mpr c29
                    clear c29
                    simp only [Option.some.injEq, Prod.mk.injEq] at H
                    obtain ⟨rfl, rfl, rfl, rfl, rfl⟩ := H
                    have hnb30 := NB356_353.out
                    have hnc30 := NB353_356.out
                    have hcz31_0 : wc.cell? ⟨gb356, 0, none⟩ = some (.int .u8 (bt a0 0)) := (blk_cell BK356.out 0).trans rfl
                    have hcz31_1 : wc.cell? ⟨gb356, 1, none⟩ = some (.bool t358) := (blk_cell BK356.out 1).trans rfl
                    have hcz31_2 : wc.cell? ⟨gb356, 2, none⟩ = some (.string x357002_16) := (blk_cell BK356.out 2).trans rfl
                    have hfz31_0 := blk_frozen BK356.out 0
                    have hfz31_1 := blk_frozen BK356.out 1
                    have hfz31_2 := blk_frozen BK356.out 2
                    go_wp2_with (first | ((with_reducible refine gate_callee (f := 95) rfl ?_); refine goesL_ (some 44) rfl rfl Try.func95 (by kernel_rfl) rfl #[.agg #[.int .u8 (bt a0 0), .bool t358, .string x357002_16]] rfl (by (try simp only [List.map_toArray, List.map_cons, List.map_nil]); first | done | rfl | (simp only [List.length_drop, List.length_take]; rfl)) ?_; (with_reducible refine (mark_Marker_may.calls (bt a0 0) t358 x357002_16 true _ A26.out).mono ?_); rintro e w32 ⟨rfl, hb⟩; refine ⟨_, rfl, ?_⟩; have n0_ := Aside0.mk (blk_below (g := gb353) (o := .cells #[.int .u8 0, .bool false, .string (⟨#[]⟩ : ByteArray)] 62 (0, 0)) (by (with_reducible repeat (first | refine blk_drewN ?_ _ | refine blk_drew ?_ | refine blk_alloc ?_ _)); exact BK353.out) hb); have n1_ := Aside0.mk (blk_below (g := gb356) (o := .cells #[.int .u8 (bt a0 0), .bool t358, .string x357002_16] 62 (0, 0)) (by (with_reducible repeat (first | refine blk_drewN ?_ _ | refine blk_drew ?_ | refine blk_alloc ?_ _)); exact BK356.out) hb); have n2_ := Aside0.mk (below_step (by repeat (first | (with_reducible first | exact HB.out | apply below_alloc | apply pw_below_drewN | apply below_drew1 | refine below_set ?_ GE353.out | refine below_set ?_ GE356.out) | exact HB.out)) hb); clear BK353; clear BK356; clear HB; have BK353 := n0_; have BK356 := n1_; have HB := n2_; clear n0_ n1_ n2_; (try clear hb); (try clear hb2); (try clear hk); (try clear hi); have hcz33_0 : w32.cell? ⟨gb356, 0, none⟩ = some (.int .u8 (bt a0 0)) := (blk_cell BK356.out 0).trans rfl; have hcz33_1 : w32.cell? ⟨gb356, 1, none⟩ = some (.bool t358) := (blk_cell BK356.out 1).trans rfl; have hcz33_2 : w32.cell? ⟨gb356, 2, none⟩ = some (.string x357002_16) := (blk_cell BK356.out 2).trans rfl; have hfz33_0 := blk_frozen BK356.out 0; have hfz33_1 := blk_frozen BK356.out 1; have hfz33_2 := blk_frozen BK356.out 2) | (go_at_call 96; (with_reducible refine (mark_Marker_line.calls (bt a0 0) t358 x357002_16 a1 t363 _ A28.out).mono ?_); rintro e w34 ⟨rfl, hb⟩; have n0_ := Aside0.mk (blk_below (g := gb353) (o := .cells #[.int .u8 0, .bool false, .string (⟨#[]⟩ : ByteArray)] 62 (0, 0)) (by (with_reducible repeat (first | refine blk_drewN ?_ _ | refine blk_drew ?_ | refine blk_alloc ?_ _)); exact BK353.out) hb); have n1_ := Aside0.mk (blk_below (g := gb356) (o := .cells #[.int .u8 (bt a0 0), .bool t358, .string x357002_16] 62 (0, 0)) (by (with_reducible repeat (first | refine blk_drewN ?_ _ | refine blk_drew ?_ | refine blk_alloc ?_ _)); exact BK356.out) hb); have n2_ := Aside0.mk (below_step (by repeat (first | (with_reducible first | exact HB.out | apply below_alloc | apply pw_below_drewN | apply below_drew1 | refine below_set ?_ GE353.out | refine below_set ?_ GE356.out) | exact HB.out)) hb); clear BK353; clear BK356; clear HB; have BK353 := n0_; have BK356 := n1_; have HB := n2_; clear n0_ n1_ n2_; (try clear hb); (try clear hb2); (try clear hk); (try clear hi); have hcz35_0 : w34.cell? ⟨gb356, 0, none⟩ = some (.int .u8 (bt a0 0)) := (blk_cell BK356.out 0).trans rfl; have hcz35_1 : w34.cell? ⟨gb356, 1, none⟩ = some (.bool t358) := (blk_cell BK356.out 1).trans rfl; have hcz35_2 : w34.cell? ⟨gb356, 2, none⟩ = some (.string x357002_16) := (blk_cell BK356.out 2).trans rfl; have hfz35_0 := blk_frozen BK356.out 0; have hfz35_1 := blk_frozen BK356.out 1; have hfz35_2 := blk_frozen BK356.out 2; have hcz36_0 : w34.cell? ⟨gb353, 0, none⟩ = some (.int .u8 0) := (blk_cell BK353.out 0).trans rfl; have hcz36_1 : w34.cell? ⟨gb353, 1, none⟩ = some (.bool false) := (blk_cell BK353.out 1).trans rfl; have hcz36_2 : w34.cell? ⟨gb353, 2, none⟩ = some (.string (⟨#[]⟩ : ByteArray)) := (blk_cell BK353.out 2).trans rfl; have hfz36_0 := blk_frozen BK353.out 0; have hfz36_1 := blk_frozen BK353.out 1; have hfz36_2 := blk_frozen BK353.out 2))
                    refine bodyPost_ret (results_ctt rfl _ _ gb353 62 #[.int .u8 (bt a0 0), .bool t358, .string x357002_16] (0, 0) _ rfl (by (with_reducible repeat (first | refine blk_drewN ?_ _ | refine blk_drew ?_ | refine blk_alloc ?_ _)); refine blk_put (cs := #[.int .u8 (bt a0 0), .bool t358, .string (⟨#[]⟩ : ByteArray)]) ?_ 2 _ rfl; (with_reducible repeat (first | refine blk_drewN ?_ _ | refine blk_drew ?_ | refine blk_alloc ?_ _)); refine blk_put (cs := #[.int .u8 (bt a0 0), .bool false, .string (⟨#[]⟩ : ByteArray)]) ?_ 1 _ rfl; (with_reducible repeat (first | refine blk_drewN ?_ _ | refine blk_drew ?_ | refine blk_alloc ?_ _)); refine blk_put (cs := #[.int .u8 0, .bool false, .string (⟨#[]⟩ : ByteArray)]) ?_ 0 _ rfl; (with_reducible repeat (first | refine blk_drewN ?_ _ | refine blk_drew ?_ | refine blk_alloc ?_ _)); exact BK353.out) Try.underlying62 rfl (by kernel_rfl)) rfl ?_
                    exact ⟨by first | rfl | (simp [errW_none, errW_some] <;> rfl) | (simp [*, errW_none, errW_some] <;> rfl), by repeat (first | (with_reducible first | exact HB.out | apply below_alloc | apply pw_below_drewN | apply below_drew1 | refine below_set ?_ GE353.out | refine below_set ?_ GE356.out) | exact HB.out)⟩
                  · rw [if_neg c29] at H
                    have c29b0 : (t363.toList == a0.toList) = false := beq_eq_false_iff_ne.mpr c29
                    have c29b1 : (t363.toList != a0.toList) = true := bne_iff_ne.mpr c29
                    simp only [Option.some.injEq, Prod.mk.injEq] at H
                    obtain ⟨rfl, rfl, rfl, rfl, rfl⟩ := H
                    have hnb37 := NB356_353.out
                    have hnc37 := NB353_356.out
                    have hcz38_0 : wc.cell? ⟨gb356, 0, none⟩ = some (.int .u8 (bt a0 0)) := (blk_cell BK356.out 0).trans rfl
                    have hcz38_1 : wc.cell? ⟨gb356, 1, none⟩ = some (.bool t358) := (blk_cell BK356.out 1).trans rfl
                    have hcz38_2 : wc.cell? ⟨gb356, 2, none⟩ = some (.string x357002_16) := (blk_cell BK356.out 2).trans rfl
                    have hfz38_0 := blk_frozen BK356.out 0
                    have hfz38_1 := blk_frozen BK356.out 1
                    have hfz38_2 := blk_frozen BK356.out 2
                    go_wp2_with (first | ((with_reducible refine gate_callee (f := 95) rfl ?_); refine goesL_ (some 44) rfl rfl Try.func95 (by kernel_rfl) rfl #[.agg #[.int .u8 (bt a0 0), .bool t358, .string x357002_16]] rfl (by (try simp only [List.map_toArray, List.map_cons, List.map_nil]); first | done | rfl | (simp only [List.length_drop, List.length_take]; rfl)) ?_; (with_reducible refine (mark_Marker_may.calls (bt a0 0) t358 x357002_16 true _ A26.out).mono ?_); rintro e w39 ⟨rfl, hb⟩; refine ⟨_, rfl, ?_⟩; have n0_ := Aside0.mk (blk_below (g := gb353) (o := .cells #[.int .u8 0, .bool false, .string (⟨#[]⟩ : ByteArray)] 62 (0, 0)) (by (with_reducible repeat (first | refine blk_drewN ?_ _ | refine blk_drew ?_ | refine blk_alloc ?_ _)); exact BK353.out) hb); have n1_ := Aside0.mk (blk_below (g := gb356) (o := .cells #[.int .u8 (bt a0 0), .bool t358, .string x357002_16] 62 (0, 0)) (by (with_reducible repeat (first | refine blk_drewN ?_ _ | refine blk_drew ?_ | refine blk_alloc ?_ _)); exact BK356.out) hb); have n2_ := Aside0.mk (below_step (by repeat (first | (with_reducible first | exact HB.out | apply below_alloc | apply pw_below_drewN | apply below_drew1 | refine below_set ?_ GE353.out | refine below_set ?_ GE356.out) | exact HB.out)) hb); clear BK353; clear BK356; clear HB; have BK353 := n0_; have BK356 := n1_; have HB := n2_; clear n0_ n1_ n2_; (try clear hb); (try clear hb2); (try clear hk); (try clear hi); have hcz40_0 : w39.cell? ⟨gb356, 0, none⟩ = some (.int .u8 (bt a0 0)) := (blk_cell BK356.out 0).trans rfl; have hcz40_1 : w39.cell? ⟨gb356, 1, none⟩ = some (.bool t358) := (blk_cell BK356.out 1).trans rfl; have hcz40_2 : w39.cell? ⟨gb356, 2, none⟩ = some (.string x357002_16) := (blk_cell BK356.out 2).trans rfl; have hfz40_0 := blk_frozen BK356.out 0; have hfz40_1 := blk_frozen BK356.out 1; have hfz40_2 := blk_frozen BK356.out 2) | (go_at_call 96; (with_reducible refine (mark_Marker_line.calls (bt a0 0) t358 x357002_16 a1 t363 _ A28.out).mono ?_); rintro e w41 ⟨rfl, hb⟩; have n0_ := Aside0.mk (blk_below (g := gb353) (o := .cells #[.int .u8 0, .bool false, .string (⟨#[]⟩ : ByteArray)] 62 (0, 0)) (by (with_reducible repeat (first | refine blk_drewN ?_ _ | refine blk_drew ?_ | refine blk_alloc ?_ _)); exact BK353.out) hb); have n1_ := Aside0.mk (blk_below (g := gb356) (o := .cells #[.int .u8 (bt a0 0), .bool t358, .string x357002_16] 62 (0, 0)) (by (with_reducible repeat (first | refine blk_drewN ?_ _ | refine blk_drew ?_ | refine blk_alloc ?_ _)); exact BK356.out) hb); have n2_ := Aside0.mk (below_step (by repeat (first | (with_reducible first | exact HB.out | apply below_alloc | apply pw_below_drewN | apply below_drew1 | refine below_set ?_ GE353.out | refine below_set ?_ GE356.out) | exact HB.out)) hb); clear BK353; clear BK356; clear HB; have BK353 := n0_; have BK356 := n1_; have HB := n2_; clear n0_ n1_ n2_; (try clear hb); (try clear hb2); (try clear hk); (try clear hi); have hcz42_0 : w41.cell? ⟨gb353, 0, none⟩ = some (.int .u8 0) := (blk_cell BK353.out 0).trans rfl; have hcz42_1 : w41.cell? ⟨gb353, 1, none⟩ = some (.bool false) := (blk_cell BK353.out 1).trans rfl; have hcz42_2 : w41.cell? ⟨gb353, 2, none⟩ = some (.string (⟨#[]⟩ : ByteArray)) := (blk_cell BK353.out 2).trans rfl; have hfz42_0 := blk_frozen BK353.out 0; have hfz42_1 := blk_frozen BK353.out 1; have hfz42_2 := blk_frozen BK353.out 2))
                    refine bodyPost_ret (results_ctt rfl _ _ gb353 62 #[.int .u8 0, .bool false, .string (⟨#[]⟩ : ByteArray)] (0, 0) _ rfl (by (with_reducible repeat (first | refine blk_drewN ?_ _ | refine blk_drew ?_ | refine blk_alloc ?_ _)); refine blk_put (cs := #[.int .u8 0, .bool false, .string (⟨#[]⟩ : ByteArray)]) ?_ 2 _ rfl; (with_reducible repeat (first | refine blk_drewN ?_ _ | refine blk_drew ?_ | refine blk_alloc ?_ _)); refine blk_put (cs := #[.int .u8 0, .bool false, .string (⟨#[]⟩ : ByteArray)]) ?_ 1 _ rfl; (with_reducible repeat (first | refine blk_drewN ?_ _ | refine blk_drew ?_ | refine blk_alloc ?_ _)); refine blk_put (cs := #[.int .u8 0, .bool false, .string (⟨#[]⟩ : ByteArray)]) ?_ 0 _ rfl; (with_reducible repeat (first | refine blk_drewN ?_ _ | refine blk_drew ?_ | refine blk_alloc ?_ _)); exact BK353.out) Try.underlying62 rfl (by kernel_rfl)) rfl ?_
                    exact ⟨by first | rfl | (simp [errW_none, errW_some] <;> rfl) | (simp [*, errW_none, errW_some] <;> rfl), by repeat (first | (with_reducible first | exact HB.out | apply below_alloc | apply pw_below_drewN | apply below_drew1 | refine below_set ?_ GE353.out | refine below_set ?_ GE356.out) | exact HB.out)⟩
                · replace c27 := Bool.eq_false_iff.mpr c27
                  subst c27
                  have H1 : (some (0, false, (⟨#[]⟩ : ByteArray), false, 6)) = some (r1, r2, r3, r4, r5) := by rw [if_neg (show ¬ (false = true) by decide)] at H; exact H
                  clear H
                  have H := H1
                  clear H1
                  simp only [Option.some.injEq, Prod.mk.injEq] at H
                  obtain ⟨rfl, rfl, rfl, rfl, rfl⟩ := H
                  have hnb43 := NB356_353.out
                  have hnc43 := NB353_356.out
                  have hcz44_0 : wc.cell? ⟨gb356, 0, none⟩ = some (.int .u8 (bt a0 0)) := (blk_cell BK356.out 0).trans rfl
                  have hcz44_1 : wc.cell? ⟨gb356, 1, none⟩ = some (.bool t358) := (blk_cell BK356.out 1).trans rfl
                  have hcz44_2 : wc.cell? ⟨gb356, 2, none⟩ = some (.string x357002_16) := (blk_cell BK356.out 2).trans rfl
                  have hfz44_0 := blk_frozen BK356.out 0
                  have hfz44_1 := blk_frozen BK356.out 1
                  have hfz44_2 := blk_frozen BK356.out 2
                  go_wp2_with (first | ((with_reducible refine gate_callee (f := 95) rfl ?_); refine goesL_ (some 44) rfl rfl Try.func95 (by kernel_rfl) rfl #[.agg #[.int .u8 (bt a0 0), .bool t358, .string x357002_16]] rfl (by (try simp only [List.map_toArray, List.map_cons, List.map_nil]); first | done | rfl | (simp only [List.length_drop, List.length_take]; rfl)) ?_; (with_reducible refine (mark_Marker_may.calls (bt a0 0) t358 x357002_16 false _ A26.out).mono ?_); rintro e w45 ⟨rfl, hb⟩; refine ⟨_, rfl, ?_⟩; have n0_ := Aside0.mk (blk_below (g := gb353) (o := .cells #[.int .u8 0, .bool false, .string (⟨#[]⟩ : ByteArray)] 62 (0, 0)) (by (with_reducible repeat (first | refine blk_drewN ?_ _ | refine blk_drew ?_ | refine blk_alloc ?_ _)); exact BK353.out) hb); have n1_ := Aside0.mk (blk_below (g := gb356) (o := .cells #[.int .u8 (bt a0 0), .bool t358, .string x357002_16] 62 (0, 0)) (by (with_reducible repeat (first | refine blk_drewN ?_ _ | refine blk_drew ?_ | refine blk_alloc ?_ _)); exact BK356.out) hb); have n2_ := Aside0.mk (below_step (by repeat (first | (with_reducible first | exact HB.out | apply below_alloc | apply pw_below_drewN | apply below_drew1 | refine below_set ?_ GE353.out | refine below_set ?_ GE356.out) | exact HB.out)) hb); clear BK353; clear BK356; clear HB; have BK353 := n0_; have BK356 := n1_; have HB := n2_; clear n0_ n1_ n2_; (try clear hb); (try clear hb2); (try clear hk); (try clear hi); have hcz46_0 : w45.cell? ⟨gb353, 0, none⟩ = some (.int .u8 0) := (blk_cell BK353.out 0).trans rfl; have hcz46_1 : w45.cell? ⟨gb353, 1, none⟩ = some (.bool false) := (blk_cell BK353.out 1).trans rfl; have hcz46_2 : w45.cell? ⟨gb353, 2, none⟩ = some (.string (⟨#[]⟩ : ByteArray)) := (blk_cell BK353.out 2).trans rfl; have hfz46_0 := blk_frozen BK353.out 0; have hfz46_1 := blk_frozen BK353.out 1; have hfz46_2 := blk_frozen BK353.out 2))
                  refine bodyPost_ret (results_ctt rfl _ _ gb353 62 #[.int .u8 0, .bool false, .string (⟨#[]⟩ : ByteArray)] (0, 0) _ rfl (by (with_reducible repeat (first | refine blk_drewN ?_ _ | refine blk_drew ?_ | refine blk_alloc ?_ _)); refine blk_put (cs := #[.int .u8 0, .bool false, .string (⟨#[]⟩ : ByteArray)]) ?_ 2 _ rfl; (with_reducible repeat (first | refine blk_drewN ?_ _ | refine blk_drew ?_ | refine blk_alloc ?_ _)); refine blk_put (cs := #[.int .u8 0, .bool false, .string (⟨#[]⟩ : ByteArray)]) ?_ 1 _ rfl; (with_reducible repeat (first | refine blk_drewN ?_ _ | refine blk_drew ?_ | refine blk_alloc ?_ _)); refine blk_put (cs := #[.int .u8 0, .bool false, .string (⟨#[]⟩ : ByteArray)]) ?_ 0 _ rfl; (with_reducible repeat (first | refine blk_drewN ?_ _ | refine blk_drew ?_ | refine blk_alloc ?_ _)); exact BK353.out) Try.underlying62 rfl (by kernel_rfl)) rfl ?_
                  exact ⟨by first | rfl | (simp [errW_none, errW_some] <;> rfl) | (simp [*, errW_none, errW_some] <;> rfl), by repeat (first | (with_reducible first | exact HB.out | apply below_alloc | apply pw_below_drewN | apply below_drew1 | refine below_set ?_ GE353.out | refine below_set ?_ GE356.out) | exact HB.out)⟩
          · rw [if_neg c13] at H
            exact absurd H (by simp)
        · rw [if_neg c12] at H
          exact absurd H (by simp)
      · rw [if_neg c10] at H
        exact absurd H (by simp)
  · replace c4 := Bool.eq_false_iff.mpr c4
    subst c4
    have H1 : (some (0, false, (⟨#[]⟩ : ByteArray), false, 4)) = some (r1, r2, r3, r4, r5) := by rw [if_neg (show ¬ (false = true) by decide)] at H; exact H
    clear H
    have H := H1
    clear H1
    simp only [Option.some.injEq, Prod.mk.injEq] at H
    obtain ⟨rfl, rfl, rfl, rfl, rfl⟩ := H
    go_enter Try.func52, Try.ntmps52
    go_wp2_with (first | ((with_reducible refine gate_dst (N := 4) rfl ?_); refine box_event ?hg (N := 4) ?hd (cs := #[.int .u8 0, .bool false, .string (⟨#[]⟩ : ByteArray)]) (t := 62) ?hr ?_; (case hd => rfl); (case hg => rfl); (case hr => first | (go_simp; done) | (go_simp; rfl)); intro gb353 hg w47 hbox hb; have n0_ := Aside0.mk (below_step (by repeat (first | (with_reducible first | exact HB.out | apply below_alloc | apply pw_below_drewN | apply below_drew1) | exact HB.out)) hb); have n1_ := Aside0.mk (hbox); have n2_ := Aside0.mk ((by rw [hg]; exact (below_size (by repeat (first | (with_reducible first | exact HB.out | apply below_alloc | apply pw_below_drewN | apply below_drew1) | exact HB.out))) : w.heap.size ≤ gb353)); have n3_ := Aside0.mk ((by rw [hg]; exact (below_size (by repeat (first | (with_reducible first | exact HB.out | apply below_alloc | apply pw_below_drewN | apply below_drew1) | exact HB.out))) : w.heap.size ≤ gb353)); clear HB; have HB := n0_; have BK353 := n1_; have GW353 := n2_; have GE353 := n3_; clear n0_ n1_ n2_ n3_; clear hb hbox hg) | ((with_reducible refine gate_callee (f := 86) rfl ?_); refine goesL_ (some 13) rfl rfl Try.func86 (by kernel_rfl) rfl #[.int .i64 a1] rfl (by (try simp only [List.map_toArray, List.map_cons, List.map_nil]); first | done | rfl | (simp only [List.length_drop, List.length_take]; rfl)) ?_; (with_reducible refine (mark_wide.calls a1 false _ A3.out).mono ?_); rintro e w' ⟨rfl, ⟨nd, rfl⟩⟩; refine ⟨_, rfl, ?_⟩; (try (rw [drewN_self w47]; generalize hq_ : World.drewN w47 _ = w47; have n0_ : Aside0 (w47.heap[gb353]? = some (.cells #[.int .u8 0, .bool false, .string (⟨#[]⟩ : ByteArray)] 62 (0, 0))) := ⟨by rw [← hq_]; exact (by (with_reducible repeat (first | refine blk_drewN ?_ _ | refine blk_drew ?_ | refine blk_alloc ?_ _)); exact BK353.out)⟩; have n1_ : Aside0 (Below w.heap.size w w47) := ⟨by rw [← hq_]; exact (by repeat (first | (with_reducible first | exact HB.out | apply below_alloc | apply pw_below_drewN | apply below_drew1 | refine below_set ?_ GE353.out) | exact HB.out))⟩; clear BK353 HB hq_; have BK353 := n0_; have HB := n1_; clear n0_ n1_)); have hcz48_0 : w47.cell? ⟨gb353, 0, none⟩ = some (.int .u8 0) := (blk_cell BK353.out 0).trans rfl; have hcz48_1 : w47.cell? ⟨gb353, 1, none⟩ = some (.bool false) := (blk_cell BK353.out 1).trans rfl; have hcz48_2 : w47.cell? ⟨gb353, 2, none⟩ = some (.string (⟨#[]⟩ : ByteArray)) := (blk_cell BK353.out 2).trans rfl; have hfz48_0 := blk_frozen BK353.out 0; have hfz48_1 := blk_frozen BK353.out 1; have hfz48_2 := blk_frozen BK353.out 2))
    refine bodyPost_ret (results_ctt rfl _ _ gb353 62 #[.int .u8 0, .bool false, .string (⟨#[]⟩ : ByteArray)] (0, 0) _ rfl (by (with_reducible repeat (first | refine blk_drewN ?_ _ | refine blk_drew ?_ | refine blk_alloc ?_ _)); refine blk_put (cs := #[.int .u8 0, .bool false, .string (⟨#[]⟩ : ByteArray)]) ?_ 2 _ rfl; (with_reducible repeat (first | refine blk_drewN ?_ _ | refine blk_drew ?_ | refine blk_alloc ?_ _)); refine blk_put (cs := #[.int .u8 0, .bool false, .string (⟨#[]⟩ : ByteArray)]) ?_ 1 _ rfl; (with_reducible repeat (first | refine blk_drewN ?_ _ | refine blk_drew ?_ | refine blk_alloc ?_ _)); refine blk_put (cs := #[.int .u8 0, .bool false, .string (⟨#[]⟩ : ByteArray)]) ?_ 0 _ rfl; (with_reducible repeat (first | refine blk_drewN ?_ _ | refine blk_drew ?_ | refine blk_alloc ?_ _)); exact BK353.out) Try.underlying62 rfl (by kernel_rfl)) rfl ?_
    exact ⟨by first | rfl | (simp [errW_none, errW_some] <;> rfl) | (simp [*, errW_none, errW_some] <;> rfl), by repeat (first | (with_reducible first | exact HB.out | apply below_alloc | apply pw_below_drewN | apply below_drew1 | refine below_set ?_ GE353.out) | exact HB.out)⟩
end Go.Proofs.Ytfiamddinkokbaa.F
end

section
set_option linter.unusedVariables false
set_option linter.unusedSimpArgs false
namespace Go.Proofs.Ytfiamddinkokbaa.F
open Go.RowKit Go.Proofs.YtfiamddinkokbaaW.PrintWords Go.Proofs.YtfiamddinkokbaaW.PrintLast Go.Proofs.YtfiamddinkokbaaW.PrintMore
attribute [local go_sem] max2_int min2_int max_two min_two max_three min_three max_four min_four
set_option linter.unusedVariables false
set_option linter.unusedSimpArgs false
def mark_Line.f (a0_0 : Int) (a0_1 : Bool) (a0_2 : ByteArray) (a1 : Int) : Option (ByteArray × Int) := (mark_wide.f a1).bind fun t438 => (if t438 = true then ((mark_Marker_may.f a0_0 a0_1 a0_2).bind fun t439 => (if t439 = true then ((mark_Marker_line.f a0_0 a0_1 a0_2 a1).bind fun t440 => (some (t440, 0))) else (some ((⟨#[]⟩ : ByteArray), 6)))) else (some ((⟨#[]⟩ : ByteArray), 4)))
set_option maxHeartbeats 8000000 in
set_option maxRecDepth 100000 in
theorem mark_Line.calls (a0_0 : Int) (a0_1 : Bool) (a0_2 : ByteArray) (a1 : Int) (r1 : ByteArray) (r2 : Int) (w : World) (h : mark_Line.f a0_0 a0_1 a0_2 a1 = some (r1, r2)) :
    Calls Try.prog 49 #[.agg #[.int .u8 a0_0, .bool a0_1, .string a0_2], .int .i64 a1] w fun e w' => e = .returned (.tuple #[.string r1, .int .i64 r2]) ∧ Below w.heap.size w w' := by
  have hu62 := Try.underlying62
  have HB := Aside0.mk (Below.refl w.heap.size w)
  have H : ((mark_wide.f a1).bind fun t438 => (if t438 = true then ((mark_Marker_may.f a0_0 a0_1 a0_2).bind fun t439 => (if t439 = true then ((mark_Marker_line.f a0_0 a0_1 a0_2 a1).bind fun t440 => (some (t440, 0))) else (some ((⟨#[]⟩ : ByteArray), 6)))) else (some ((⟨#[]⟩ : ByteArray), 4)))) = some (r1, r2) := h
  clear h
  replace H := Option.bind_eq_some_iff.mp H
  obtain ⟨t438, A30, H⟩ := H
  replace H : (if t438 = true then ((mark_Marker_may.f a0_0 a0_1 a0_2).bind fun t439 => (if t439 = true then ((mark_Marker_line.f a0_0 a0_1 a0_2 a1).bind fun t440 => (some (t440, 0))) else (some ((⟨#[]⟩ : ByteArray), 6)))) else (some ((⟨#[]⟩ : ByteArray), 4))) = some (r1, r2) := H
  have A3 := Aside0.mk A30
  clear A30
  by_cases c4 : t438 = true
  · subst c4
    have H1 : ((mark_Marker_may.f a0_0 a0_1 a0_2).bind fun t439 => (if t439 = true then ((mark_Marker_line.f a0_0 a0_1 a0_2 a1).bind fun t440 => (some (t440, 0))) else (some ((⟨#[]⟩ : ByteArray), 6)))) = some (r1, r2) := by rw [if_pos rfl] at H; exact H
    clear H
    have H := H1
    clear H1
    replace H := Option.bind_eq_some_iff.mp H
    obtain ⟨t439, A50, H⟩ := H
    replace H : (if t439 = true then ((mark_Marker_line.f a0_0 a0_1 a0_2 a1).bind fun t440 => (some (t440, 0))) else (some ((⟨#[]⟩ : ByteArray), 6))) = some (r1, r2) := H
    have A5 := Aside0.mk A50
    clear A50
    by_cases c6 : t439 = true
    · subst c6
      have H1 : ((mark_Marker_line.f a0_0 a0_1 a0_2 a1).bind fun t440 => (some (t440, 0))) = some (r1, r2) := by rw [if_pos rfl] at H; exact H
      clear H
      have H := H1
      clear H1
      replace H := Option.bind_eq_some_iff.mp H
      obtain ⟨t440, A70, H⟩ := H
      replace H : (some (t440, 0)) = some (r1, r2) := H
      have A7 := Aside0.mk A70
      clear A70
      simp only [Option.some.injEq, Prod.mk.injEq] at H
      obtain ⟨rfl, rfl⟩ := H
      go_enter Try.func49, Try.ntmps49
      go_wp2_with (first | ((with_reducible refine gate_dst (N := 2) rfl ?_); refine box_event ?hg (N := 2) ?hd (cs := #[.int .u8 a0_0, .bool a0_1, .string a0_2]) (t := 62) ?hr ?_; (case hd => rfl); (case hg => rfl); (case hr => first | (go_simp; done) | (go_simp; rfl)); intro gb437 hg w8 hbox hb; have n0_ := Aside0.mk (below_step (by repeat (first | (with_reducible first | exact HB.out | apply below_alloc | apply pw_below_drewN | apply below_drew1) | exact HB.out)) hb); have n1_ := Aside0.mk (hbox); have n2_ := Aside0.mk ((by rw [hg]; exact (below_size (by repeat (first | (with_reducible first | exact HB.out | apply below_alloc | apply pw_below_drewN | apply below_drew1) | exact HB.out))) : w.heap.size ≤ gb437)); have n3_ := Aside0.mk ((by rw [hg]; exact (below_size (by repeat (first | (with_reducible first | exact HB.out | apply below_alloc | apply pw_below_drewN | apply below_drew1) | exact HB.out))) : w.heap.size ≤ gb437)); clear HB; have HB := n0_; have BK437 := n1_; have GW437 := n2_; have GE437 := n3_; clear n0_ n1_ n2_ n3_; clear hb hbox hg) | ((with_reducible refine gate_callee (f := 86) rfl ?_); refine goesL_ (some 8) rfl rfl Try.func86 (by kernel_rfl) rfl #[.int .i64 a1] rfl (by (try simp only [List.map_toArray, List.map_cons, List.map_nil]); first | done | rfl | (simp only [List.length_drop, List.length_take]; rfl)) ?_; (with_reducible refine (mark_wide.calls a1 true _ A3.out).mono ?_); rintro e w' ⟨rfl, ⟨nd, rfl⟩⟩; refine ⟨_, rfl, ?_⟩; have hcz9_0 : w8.cell? ⟨gb437, 0, none⟩ = some (.int .u8 a0_0) := (blk_cell BK437.out 0).trans rfl; have hcz9_1 : w8.cell? ⟨gb437, 1, none⟩ = some (.bool a0_1) := (blk_cell BK437.out 1).trans rfl; have hcz9_2 : w8.cell? ⟨gb437, 2, none⟩ = some (.string a0_2) := (blk_cell BK437.out 2).trans rfl; have hfz9_0 := blk_frozen BK437.out 0; have hfz9_1 := blk_frozen BK437.out 1; have hfz9_2 := blk_frozen BK437.out 2) | ((with_reducible refine gate_callee (f := 95) rfl ?_); refine goesL_ (some 12) rfl rfl Try.func95 (by kernel_rfl) rfl #[.agg #[.int .u8 a0_0, .bool a0_1, .string a0_2]] rfl (by (try simp only [List.map_toArray, List.map_cons, List.map_nil]); first | done | rfl | (simp only [List.length_drop, List.length_take]; rfl)) ?_; (with_reducible refine (mark_Marker_may.calls a0_0 a0_1 a0_2 true _ A5.out).mono ?_); rintro e w10 ⟨rfl, hb⟩; refine ⟨_, rfl, ?_⟩; have n0_ := Aside0.mk (blk_below (g := gb437) (o := .cells #[.int .u8 a0_0, .bool a0_1, .string a0_2] 62 (0, 0)) (by (with_reducible repeat (first | refine blk_drewN ?_ _ | refine blk_drew ?_ | refine blk_alloc ?_ _)); exact BK437.out) hb); have n1_ := Aside0.mk (below_step (by repeat (first | (with_reducible first | exact HB.out | apply below_alloc | apply pw_below_drewN | apply below_drew1 | refine below_set ?_ GE437.out) | exact HB.out)) hb); clear BK437; clear HB; have BK437 := n0_; have HB := n1_; clear n0_ n1_; (try clear hb); (try clear hb2); (try clear hk); (try clear hi); have hcz11_0 : w10.cell? ⟨gb437, 0, none⟩ = some (.int .u8 a0_0) := (blk_cell BK437.out 0).trans rfl; have hcz11_1 : w10.cell? ⟨gb437, 1, none⟩ = some (.bool a0_1) := (blk_cell BK437.out 1).trans rfl; have hcz11_2 : w10.cell? ⟨gb437, 2, none⟩ = some (.string a0_2) := (blk_cell BK437.out 2).trans rfl; have hfz11_0 := blk_frozen BK437.out 0; have hfz11_1 := blk_frozen BK437.out 1; have hfz11_2 := blk_frozen BK437.out 2) | ((with_reducible refine gate_callee (f := 96) rfl ?_); refine goesL_ (some 16) rfl rfl Try.func96 (by kernel_rfl) rfl #[.agg #[.int .u8 a0_0, .bool a0_1, .string a0_2], .int .i64 a1] rfl (by (try simp only [List.map_toArray, List.map_cons, List.map_nil]); first | done | rfl | (simp only [List.length_drop, List.length_take]; rfl)) ?_; (with_reducible refine (mark_Marker_line.calls a0_0 a0_1 a0_2 a1 t440 _ A7.out).mono ?_); rintro e w12 ⟨rfl, hb⟩; refine ⟨_, rfl, ?_⟩; have n0_ := Aside0.mk (blk_below (g := gb437) (o := .cells #[.int .u8 a0_0, .bool a0_1, .string a0_2] 62 (0, 0)) (by (with_reducible repeat (first | refine blk_drewN ?_ _ | refine blk_drew ?_ | refine blk_alloc ?_ _)); exact BK437.out) hb); have n1_ := Aside0.mk (below_step (by repeat (first | (with_reducible first | exact HB.out | apply below_alloc | apply pw_below_drewN | apply below_drew1 | refine below_set ?_ GE437.out) | exact HB.out)) hb); clear BK437; clear HB; have BK437 := n0_; have HB := n1_; clear n0_ n1_; (try clear hb); (try clear hb2); (try clear hk); (try clear hi)))
      go_ret2
      exact ⟨by first | rfl | (simp [errW_none, errW_some] <;> rfl) | (simp [*, errW_none, errW_some] <;> rfl), by repeat (first | (with_reducible first | exact HB.out | apply below_alloc | apply pw_below_drewN | apply below_drew1 | refine below_set ?_ GE437.out) | exact HB.out)⟩
    · replace c6 := Bool.eq_false_iff.mpr c6
      subst c6
      have H1 : (some ((⟨#[]⟩ : ByteArray), 6)) = some (r1, r2) := by rw [if_neg (show ¬ (false = true) by decide)] at H; exact H
      clear H
      have H := H1
      clear H1
      simp only [Option.some.injEq, Prod.mk.injEq] at H
      obtain ⟨rfl, rfl⟩ := H
      go_enter Try.func49, Try.ntmps49
      go_wp2_with (first | ((with_reducible refine gate_dst (N := 2) rfl ?_); refine box_event ?hg (N := 2) ?hd (cs := #[.int .u8 a0_0, .bool a0_1, .string a0_2]) (t := 62) ?hr ?_; (case hd => rfl); (case hg => rfl); (case hr => first | (go_simp; done) | (go_simp; rfl)); intro gb437 hg w13 hbox hb; have n0_ := Aside0.mk (below_step (by repeat (first | (with_reducible first | exact HB.out | apply below_alloc | apply pw_below_drewN | apply below_drew1) | exact HB.out)) hb); have n1_ := Aside0.mk (hbox); have n2_ := Aside0.mk ((by rw [hg]; exact (below_size (by repeat (first | (with_reducible first | exact HB.out | apply below_alloc | apply pw_below_drewN | apply below_drew1) | exact HB.out))) : w.heap.size ≤ gb437)); have n3_ := Aside0.mk ((by rw [hg]; exact (below_size (by repeat (first | (with_reducible first | exact HB.out | apply below_alloc | apply pw_below_drewN | apply below_drew1) | exact HB.out))) : w.heap.size ≤ gb437)); clear HB; have HB := n0_; have BK437 := n1_; have GW437 := n2_; have GE437 := n3_; clear n0_ n1_ n2_ n3_; clear hb hbox hg) | ((with_reducible refine gate_callee (f := 86) rfl ?_); refine goesL_ (some 8) rfl rfl Try.func86 (by kernel_rfl) rfl #[.int .i64 a1] rfl (by (try simp only [List.map_toArray, List.map_cons, List.map_nil]); first | done | rfl | (simp only [List.length_drop, List.length_take]; rfl)) ?_; (with_reducible refine (mark_wide.calls a1 true _ A3.out).mono ?_); rintro e w' ⟨rfl, ⟨nd, rfl⟩⟩; refine ⟨_, rfl, ?_⟩; have hcz14_0 : w13.cell? ⟨gb437, 0, none⟩ = some (.int .u8 a0_0) := (blk_cell BK437.out 0).trans rfl; have hcz14_1 : w13.cell? ⟨gb437, 1, none⟩ = some (.bool a0_1) := (blk_cell BK437.out 1).trans rfl; have hcz14_2 : w13.cell? ⟨gb437, 2, none⟩ = some (.string a0_2) := (blk_cell BK437.out 2).trans rfl; have hfz14_0 := blk_frozen BK437.out 0; have hfz14_1 := blk_frozen BK437.out 1; have hfz14_2 := blk_frozen BK437.out 2) | ((with_reducible refine gate_callee (f := 95) rfl ?_); refine goesL_ (some 12) rfl rfl Try.func95 (by kernel_rfl) rfl #[.agg #[.int .u8 a0_0, .bool a0_1, .string a0_2]] rfl (by (try simp only [List.map_toArray, List.map_cons, List.map_nil]); first | done | rfl | (simp only [List.length_drop, List.length_take]; rfl)) ?_; (with_reducible refine (mark_Marker_may.calls a0_0 a0_1 a0_2 false _ A5.out).mono ?_); rintro e w15 ⟨rfl, hb⟩; refine ⟨_, rfl, ?_⟩; have n0_ := Aside0.mk (blk_below (g := gb437) (o := .cells #[.int .u8 a0_0, .bool a0_1, .string a0_2] 62 (0, 0)) (by (with_reducible repeat (first | refine blk_drewN ?_ _ | refine blk_drew ?_ | refine blk_alloc ?_ _)); exact BK437.out) hb); have n1_ := Aside0.mk (below_step (by repeat (first | (with_reducible first | exact HB.out | apply below_alloc | apply pw_below_drewN | apply below_drew1 | refine below_set ?_ GE437.out) | exact HB.out)) hb); clear BK437; clear HB; have BK437 := n0_; have HB := n1_; clear n0_ n1_; (try clear hb); (try clear hb2); (try clear hk); (try clear hi)))
      go_ret2
      exact ⟨by first | rfl | (simp [errW_none, errW_some] <;> rfl) | (simp [*, errW_none, errW_some] <;> rfl), by repeat (first | (with_reducible first | exact HB.out | apply below_alloc | apply pw_below_drewN | apply below_drew1 | refine below_set ?_ GE437.out) | exact HB.out)⟩
  · replace c4 := Bool.eq_false_iff.mpr c4
    subst c4
    have H1 : (some ((⟨#[]⟩ : ByteArray), 4)) = some (r1, r2) := by rw [if_neg (show ¬ (false = true) by decide)] at H; exact H
    clear H
    have H := H1
    clear H1
    simp only [Option.some.injEq, Prod.mk.injEq] at H
    obtain ⟨rfl, rfl⟩ := H
    go_enter Try.func49, Try.ntmps49
    go_wp2_with (first | ((with_reducible refine gate_dst (N := 2) rfl ?_); refine box_event ?hg (N := 2) ?hd (cs := #[.int .u8 a0_0, .bool a0_1, .string a0_2]) (t := 62) ?hr ?_; (case hd => rfl); (case hg => rfl); (case hr => first | (go_simp; done) | (go_simp; rfl)); intro gb437 hg w16 hbox hb; have n0_ := Aside0.mk (below_step (by repeat (first | (with_reducible first | exact HB.out | apply below_alloc | apply pw_below_drewN | apply below_drew1) | exact HB.out)) hb); have n1_ := Aside0.mk (hbox); have n2_ := Aside0.mk ((by rw [hg]; exact (below_size (by repeat (first | (with_reducible first | exact HB.out | apply below_alloc | apply pw_below_drewN | apply below_drew1) | exact HB.out))) : w.heap.size ≤ gb437)); have n3_ := Aside0.mk ((by rw [hg]; exact (below_size (by repeat (first | (with_reducible first | exact HB.out | apply below_alloc | apply pw_below_drewN | apply below_drew1) | exact HB.out))) : w.heap.size ≤ gb437)); clear HB; have HB := n0_; have BK437 := n1_; have GW437 := n2_; have GE437 := n3_; clear n0_ n1_ n2_ n3_; clear hb hbox hg) | ((with_reducible refine gate_callee (f := 86) rfl ?_); refine goesL_ (some 8) rfl rfl Try.func86 (by kernel_rfl) rfl #[.int .i64 a1] rfl (by (try simp only [List.map_toArray, List.map_cons, List.map_nil]); first | done | rfl | (simp only [List.length_drop, List.length_take]; rfl)) ?_; (with_reducible refine (mark_wide.calls a1 false _ A3.out).mono ?_); rintro e w' ⟨rfl, ⟨nd, rfl⟩⟩; refine ⟨_, rfl, ?_⟩))
    go_ret2
    exact ⟨by first | rfl | (simp [errW_none, errW_some] <;> rfl) | (simp [*, errW_none, errW_some] <;> rfl), by repeat (first | (with_reducible first | exact HB.out | apply below_alloc | apply pw_below_drewN | apply below_drew1 | refine below_set ?_ GE437.out) | exact HB.out)⟩
end Go.Proofs.Ytfiamddinkokbaa.F
end

section
set_option linter.unusedVariables false
set_option linter.unusedSimpArgs false
namespace Go.Proofs.Ytfiamddinkokbaa.F
open Go.RowKit Go.Proofs.YtfiamddinkokbaaW.PrintWords Go.Proofs.YtfiamddinkokbaaW.PrintLast Go.Proofs.YtfiamddinkokbaaW.PrintMore
attribute [local go_sem] max2_int min2_int max_two min_two max_three min_three max_four min_four
set_option linter.unusedVariables false
set_option linter.unusedSimpArgs false
end Go.Proofs.Ytfiamddinkokbaa.F
end

section
set_option linter.unusedVariables false
set_option linter.unusedSimpArgs false
namespace Go.Proofs.Ytfiamddinkokbaa.F
open Go.RowKit Go.Proofs.YtfiamddinkokbaaW.PrintWords Go.Proofs.YtfiamddinkokbaaW.PrintLast Go.Proofs.YtfiamddinkokbaaW.PrintMore
attribute [local go_sem] max2_int min2_int max_two min_two max_three min_three max_four min_four
set_option linter.unusedVariables false
set_option linter.unusedSimpArgs false
end Go.Proofs.Ytfiamddinkokbaa.F
end

section
set_option linter.unusedVariables false
set_option linter.unusedSimpArgs false
namespace Go.Proofs.Ytfiamddinkokbaa.F
open Go.RowKit Go.Proofs.YtfiamddinkokbaaW.PrintWords Go.Proofs.YtfiamddinkokbaaW.PrintLast Go.Proofs.YtfiamddinkokbaaW.PrintMore
attribute [local go_sem] max2_int min2_int max_two min_two max_three min_three max_four min_four
set_option linter.unusedVariables false
set_option linter.unusedSimpArgs false
end Go.Proofs.Ytfiamddinkokbaa.F
end

section
set_option linter.unusedVariables false
set_option linter.unusedSimpArgs false
namespace Go.Proofs.Ytfiamddinkokbaa.F
open Go.RowKit Go.Proofs.YtfiamddinkokbaaW.PrintWords Go.Proofs.YtfiamddinkokbaaW.PrintLast Go.Proofs.YtfiamddinkokbaaW.PrintMore
attribute [local go_sem] max2_int min2_int max_two min_two max_three min_three max_four min_four
set_option linter.unusedVariables false
set_option linter.unusedSimpArgs false
end Go.Proofs.Ytfiamddinkokbaa.F
end

section
set_option linter.unusedVariables false
set_option linter.unusedSimpArgs false
namespace Go.Proofs.Ytfiamddinkokbaa.F
open Go.RowKit Go.Proofs.YtfiamddinkokbaaW.PrintWords Go.Proofs.YtfiamddinkokbaaW.PrintLast Go.Proofs.YtfiamddinkokbaaW.PrintMore
attribute [local go_sem] max2_int min2_int max_two min_two max_three min_three max_four min_four
set_option linter.unusedVariables false
set_option linter.unusedSimpArgs false
end Go.Proofs.Ytfiamddinkokbaa.F
end

section
set_option linter.unusedVariables false
set_option linter.unusedSimpArgs false
namespace Go.Proofs.Ytfiamddinkokbaa.F
open Go.RowKit Go.Proofs.YtfiamddinkokbaaW.PrintWords Go.Proofs.YtfiamddinkokbaaW.PrintLast Go.Proofs.YtfiamddinkokbaaW.PrintMore
attribute [local go_sem] max2_int min2_int max_two min_two max_three min_three max_four min_four
set_option linter.unusedVariables false
set_option linter.unusedSimpArgs false
end Go.Proofs.Ytfiamddinkokbaa.F
end

section
set_option linter.unusedVariables false
set_option linter.unusedSimpArgs false
namespace Go.Proofs.Ytfiamddinkokbaa.F
open Go.RowKit Go.Proofs.YtfiamddinkokbaaW.PrintWords Go.Proofs.YtfiamddinkokbaaW.PrintLast Go.Proofs.YtfiamddinkokbaaW.PrintMore
attribute [local go_sem] max2_int min2_int max_two min_two max_three min_three max_four min_four
set_option linter.unusedVariables false
set_option linter.unusedSimpArgs false
end Go.Proofs.Ytfiamddinkokbaa.F
end

section
set_option linter.unusedVariables false
set_option linter.unusedSimpArgs false
namespace Go.Proofs.Ytfiamddinkokbaa.F
open Go.RowKit Go.Proofs.YtfiamddinkokbaaW.PrintWords Go.Proofs.YtfiamddinkokbaaW.PrintLast Go.Proofs.YtfiamddinkokbaaW.PrintMore
attribute [local go_sem] max2_int min2_int max_two min_two max_three min_three max_four min_four
set_option linter.unusedVariables false
set_option linter.unusedSimpArgs false
end Go.Proofs.Ytfiamddinkokbaa.F
end

section
set_option linter.unusedVariables false
set_option linter.unusedSimpArgs false
namespace Go.Proofs.Ytfiamddinkokbaa
open Go.RowKit Go.Lib
set_option linter.unusedVariables false
set_option linter.unusedSimpArgs false
set_option maxHeartbeats 2000000 in
set_option maxRecDepth 100000 in
theorem bld_used (b o : Nat) (w : World) (h0 : w.cell? ⟨b, o, none⟩ = some (.pointer (some ⟨b, o, none⟩))) :
    Calls Try.prog 123 #[.pointer (some ⟨b, o, none⟩)] w fun e w' => e = .returned (.tuple #[]) ∧ w' = w := by
  obtain ⟨j, hj, _⟩ := Option.map_eq_some_iff.1 (show (Try.prog.info? 127).map (·.size) = some 2 by kernel_rfl)
  have hu := Try.underlying124
  have hu2 := Try.underlying127
  go_enter Try.func123, Try.ntmps123
  go_wp2
  rw [Lib.run_neq_ptr_same w _ hu hj]
  go_wp2
  go_end0
  exact ⟨rfl, rfl⟩
set_option maxHeartbeats 2000000 in
set_option maxRecDepth 100000 in
theorem bld_fresh (b o : Nat) (T : TypeId) (n : Nat) (w : World) (h0 : w.cell? ⟨b, o, none⟩ = some (.pointer none)) (hsh : w.shape? b = some (T, n)) (hon : o < n) (hfz : w.frozen? ⟨b, o, none⟩ = false)
    (hlies : liesAt Try.prog Try.prog.depth T (n / Try.prog.cellsOf T) o 127 1 = true) :
    Calls Try.prog 123 #[.pointer (some ⟨b, o, none⟩)] w fun e w' => e = .returned (.tuple #[]) ∧ w' = w.setCell ⟨b, o, none⟩ (.pointer (some ⟨b, o, none⟩)) := by
  obtain ⟨j, hj, hjs⟩ := Option.map_eq_some_iff.1 (show (Try.prog.info? 127).map (·.size) = some 2 by kernel_rfl)
  have hu := Try.underlying124
  have hu2 := Try.underlying127
  have hu3 := Try.underlying184
  go_enter Try.func123, Try.ntmps123
  go_wp2
  rw [Lib.run_to_unsafe w ⟨b, o, none⟩ hu hu3 hj (by rw [hjs]; decide) hsh hon]
  simp only [Result.andThen]
  rw [Oper.upon_value]
  try rw [Oper.upon_value]
  go_wp2
  rw [run_callFunc_extern Try.func149 (by kernel_rfl) (by kernel_rfl) (by kernel_rfl) (e := Extern.AbiNoEscape.same) (by kernel_rfl)]
  rw [Lib.run_noEscape]
  simp only [Result.andThen]
  rw [Oper.upon_value]
  go_wp2
  rw [Lib.run_from_unsafe w ⟨b, o, none⟩ hu3 hu hj hsh hlies]
  simp only [Result.andThen]
  rw [Oper.upon_value]
  go_wp2
  go_end0
  exact ⟨rfl, rfl⟩
structure BldAt (T : TypeId) (o : Nat) (B b : Nat) (cs : Array Value) (p v : Value) (bs : List UInt8) (w : World) : Prop where
  lo : B ≤ b
  blk : w.heap[b]? = some (.cells cs T (0, 0))
  at0 : cs[o]? = some p
  at1 : cs[o + 1]? = some v
  ptr : p = .pointer none ∨ p = .pointer (some ⟨b, o, none⟩)
  own : w.ownsRow B 5 1 v bs.length (Lib.byteCells bs)
  ne : v.ownBlock ≠ some b
theorem BldAt.lt {T : TypeId} {o B b : Nat} {cs : Array Value} {p v : Value} {bs : List UInt8} {w : World} (h : BldAt T o B b cs p v bs w) : b < w.heap.size := (Array.getElem?_eq_some_iff.1 h.blk).1
theorem bld_check {T : TypeId} {o B b : Nat} {cs : Array Value} {p v : Value} {bs : List UInt8} {w : World} (h : BldAt T o B b cs p v bs w)
    (hlies : liesAt Try.prog Try.prog.depth T (cs.size / Try.prog.cellsOf T) o 127 1 = true) :
    Calls Try.prog 123 #[.pointer (some ⟨b, o, none⟩)] w fun e w' => e = .returned (.tuple #[]) ∧
      BldAt T o B b (cs.setIfInBounds o (.pointer (some ⟨b, o, none⟩))) (.pointer (some ⟨b, o, none⟩)) v bs w' ∧ Below B w w' ∧ w'.heap.size = w.heap.size ∧ (∀ k, k ≠ b → w'.heap[k]? = w.heap[k]?) := by
  have ho : o < cs.size := (Array.getElem?_eq_some_iff.1 h.at0).1
  have hcell : w.cell? ⟨b, o, none⟩ = some p := (Lib.cell_of_heap h.blk o).trans h.at0
  have hc1 : (cs.setIfInBounds o (.pointer (some ⟨b, o, none⟩)))[o]? = some (.pointer (some ⟨b, o, none⟩)) := by
    rw [Array.getElem?_setIfInBounds_self]; simp [ho]
  have hc2 : (cs.setIfInBounds o (.pointer (some ⟨b, o, none⟩)))[o + 1]? = some v := by
    rw [Array.getElem?_setIfInBounds_ne (by omega)]; exact h.at1
  rcases h.ptr with hp | hp
  · rw [hp] at hcell
    refine (bld_fresh b o T cs.size w hcell (by simp [World.shape?, h.blk]) ho (Lib.frozen_of_heap h.blk o) hlies).mono ?_
    rintro e w' ⟨rfl, rfl⟩
    have hb' : (w.setCell ⟨b, o, none⟩ (.pointer (some ⟨b, o, none⟩))).heap[b]? = some (.cells (cs.setIfInBounds o (.pointer (some ⟨b, o, none⟩))) T (0, 0)) := by
      simp [World.setCell, Array.getElem?_modify, h.blk]
    refine ⟨rfl, ⟨h.lo, hb', hc1, hc2, .inr rfl, ?_, h.ne⟩, (Below.refl B w).setCell (p := ⟨b, o, none⟩) h.lo _, by simp [World.setCell], fun k hk => Below.heap_setCell _ _ _ _ hk⟩
    exact h.own.kept (row := some b) ⟨rfl, rfl, rfl, by simp [World.setCell], fun k _ hk => Below.heap_setCell _ _ _ _ (fun e => hk (by simp [e]))⟩ (Or.inr h.ne)
  · rw [hp] at hcell
    refine (bld_used b o w hcell).mono ?_
    rintro e w' ⟨rfl, rfl⟩
    have hid : cs.setIfInBounds o (.pointer (some ⟨b, o, none⟩)) = cs := by
      apply Array.ext_getElem?
      intro i
      by_cases hi : i = o
      · subst hi; rw [hc1, h.at0, hp]
      · rw [Array.getElem?_setIfInBounds_ne (by omega)]
    rw [hid]
    exact ⟨rfl, ⟨h.lo, h.blk, hp ▸ h.at0, h.at1, .inr rfl, h.own, h.ne⟩, Below.refl B _, rfl, fun k _ => rfl⟩
theorem byteCells_append (a b : List UInt8) : Lib.byteCells (a ++ b) = Lib.byteCells a ++ Lib.byteCells b := by simp [Lib.byteCells]
set_option maxHeartbeats 4000000 in
set_option maxRecDepth 100000 in
theorem bld_write {T : TypeId} {o B b : Nat} {cs : Array Value} {p v : Value} {bs : List UInt8} {w : World} (s : ByteArray) (h : BldAt T o B b cs p v bs w)
    (hlies : liesAt Try.prog Try.prog.depth T (cs.size / Try.prog.cellsOf T) o 127 1 = true) (hT : T ≠ 5) (hlen : bs.length + s.size ≤ 140737488355328) (hBw : B ≤ w.heap.size) :
    Calls Try.prog 87 #[.pointer (some ⟨b, o, none⟩), .string s] w fun e w' => e = .returned (.tuple #[.int .i64 s.size, .nilIface]) ∧
      ∃ v', BldAt T o B b ((cs.setIfInBounds o (.pointer (some ⟨b, o, none⟩))).setIfInBounds (o + 1) v') (.pointer (some ⟨b, o, none⟩)) v' (bs ++ s.data.toList) w' ∧ Below B w w' ∧
        (∀ k, k < w.heap.size → k ≠ b → some k ≠ v.ownBlock → w'.heap[k]? = w.heap[k]?) := by
  have hu := Try.underlying124
  have hu2 := Try.underlying127
  have hu3 := Try.underlying125
  have hu4 := Try.underlying9
  obtain ⟨i0, hi, hz0, hz1, hz2⟩ := info_parts (show (Try.prog.info? 5).map (fun i => (i.zero, i.size, i.bytes)) = some (some (.int .u8 0), 1, 1) by kernel_rfl)
  have hcon := bld_check h hlies
  have ho : o < cs.size := (Array.getElem?_eq_some_iff.1 h.at0).1
  have ho1 : o + 1 < cs.size := (Array.getElem?_eq_some_iff.1 h.at1).1
  generalize hcs : cs.setIfInBounds o (.pointer (some ⟨b, o, none⟩)) = cs1 at hcon ⊢
  have hs1 : cs1.size = cs.size := by rw [← hcs]; simp
  clear hcs
  go_enter Try.func87, Try.ntmps87
  go_wp2_with (go_at_call 123; refine hcon.mono ?_)
  rintro e w1 ⟨rfl, h1, hb1, hz, hk1⟩
  have c1 : w1.cell? ⟨b, o + 1, none⟩ = some v := (Lib.cell_of_heap h1.blk _).trans h1.at1
  have hcl : (Lib.byteCells bs).length = bs.length := Lib.byteCells_length bs
  have hown := h1.own
  go_wp2_with (at_builtin; refine Lib.wpList_append_own_string _ rfl _ _ 125 9 rfl B 5 i0 hu3 hu4 hi hz0 hz1 hz2 _ _ _ rfl hown s rfl ?c3 ?c4 ?c5 ?_)
  case c3 => unfold maxLen; omega
  case c4 => omega
  case c5 => have := hb1.size; omega
  intro v' w2 hown' hgrow _
  have hb2 : w2.heap[b]? = some (.cells cs1 T (0, 0)) := by
    rw [hgrow.block b h1.lt (fun e => h1.ne e.symm)]
    exact h1.blk
  have d1 : w2.cell? ⟨b, o + 1, none⟩ = some v := (Lib.cell_of_heap hb2 _).trans h1.at1
  have f1 : w2.frozen? ⟨b, o + 1, none⟩ = false := Lib.frozen_of_heap hb2 (o + 1)
  obtain ⟨ao, n', cap, rfl⟩ : ∃ ao n' cap, v' = .slice ao n' cap := by
    rcases hown'.2 with ⟨hv, _⟩ | ⟨g, cap, cur, hv, _⟩
    · exact ⟨_, _, _, hv⟩
    · exact ⟨_, _, _, hv⟩
  go_wp2
  go_ret2
  have hlen2 : (bs ++ s.data.toList).length = bs.length + s.size := by rw [List.length_append, Array.length_toList]; rfl
  have hcells : Lib.byteCells (bs ++ s.data.toList) = Lib.byteCells bs ++ Lib.strCells s := by rw [byteCells_append]; rfl
  have hne : (Value.slice ao n' cap).ownBlock ≠ some b := Lib.ownBlock_ne hown' hb2 hT
  refine ⟨rfl, _, ⟨h.lo, ?_, ?_, ?_, .inr rfl, ?_, hne⟩, (hb1.grown hgrow (by have := hb1.size; omega) (fun k hk => (hown.lt k hk).1)).setCell (p := ⟨b, o + 1, none⟩) h.lo _, ?_⟩
  · simp [World.setCell, Array.getElem?_modify, hb2]
  · rw [Array.getElem?_setIfInBounds_ne (by omega)]; exact h1.at0
  · rw [Array.getElem?_setIfInBounds_self]; simp [hs1, ho1]
  · rw [hlen2, hcells]
    exact hown'.kept (row := some b) ⟨rfl, rfl, rfl, by simp [World.setCell], fun k _ hk => Below.heap_setCell _ _ _ _ (fun e => hk (by simp [e]))⟩ (Or.inr hne)
  · intro k hk hkb hkv
    rw [Below.heap_setCell _ _ _ _ hkb, hgrow.block k (by omega) hkv, hk1 k hkb]
theorem bld_freeze_old (w : World) (g k n : Nat) (h : k ≠ g) : (w.freeze ⟨g, 0, none⟩ n).heap[k]? = w.heap[k]? := by
  unfold World.freeze
  split
  · rfl
  · simp [Array.getElem?_modify, Ne.symm h]
theorem bld_unsafeNone (W : World) (q : Option Addr) : (Builtin.unsafeString_ #[165, 3] 9 #[.pointer q, .int .i64 0]).run Try.prog W = .ok (.string .empty) W := Lib.run_unsafeString_none W _ _ _ q
set_option maxHeartbeats 4000000 in
set_option maxRecDepth 100000 in
theorem bld_string {T : TypeId} {o B b : Nat} {cs : Array Value} {p v : Value} {bs : List UInt8} {w : World} (h : BldAt T o B b cs p v bs w) (hBw : B ≤ w.heap.size) :
    Calls Try.prog 89 #[.pointer (some ⟨b, o, none⟩)] w fun e w' => e = .returned (.string (toB bs)) ∧ Below B w w' ∧ (∀ k, k < w.heap.size → some k ≠ v.ownBlock → w'.heap[k]? = w.heap[k]?) := by
  have hu := Try.underlying124
  have hu2 := Try.underlying127
  have hu3 := Try.underlying125
  have hu4 := Try.underlying165
  have hlt := h.lt
  have hUS := bld_unsafeNone
  have mixed : Try.prog.follows .mixedOrders = true := by kernel_rfl
  rcases h.own.2 with ⟨hv, hz⟩ | ⟨g, cap, cur, hv, hbg, hg, hnc, hcm, hcs, htake⟩
  · subst hv
    have hbs : bs = [] := List.length_eq_zero_iff.1 hz
    subst hbs
    have c1 : w.drew.cell? ⟨b, o + 1, none⟩ = some (.slice none 0 0) := (Lib.cell_of_heap (show w.drew.heap[b]? = some (.cells cs T (0, 0)) from h.blk) _).trans h.at1
    have hSD : (Builtin.unsafeSliceData_ #[125] 165 #[.slice none 0 0]).run Try.prog w.drew = .ok (.pointer none) w.drew := rfl
    clear h
    go_enter Try.func89, Try.ntmps89
    go_wp2
    go_region_o
    all_goals (go_wp2; go_ret; exact ⟨rfl, Below.drew (Below.refl B w), fun _ _ _ => rfl⟩)
  · subst hv
    by_cases h0 : bs = []
    · subst h0
      by_cases hc0 : cap = 0
      · subst hc0
        have c1 : w.drew.cell? ⟨b, o + 1, none⟩ = some (.slice (some ⟨g, 0, none⟩) 0 0) := (Lib.cell_of_heap (show w.drew.heap[b]? = some (.cells cs T (0, 0)) from h.blk) _).trans h.at1
        have hSD : (Builtin.unsafeSliceData_ #[125] 165 #[.slice (some ⟨g, 0, none⟩) 0 0]).run Try.prog w.drew = .ok (.pointer (some ⟨w.drew.heap.size, 0, none⟩)) (w.drew.alloc (.view ⟨g, 0, none⟩ 5)) :=
          Lib.run_unsafeSliceData_zero w.drew _ _ 5 hu4 ⟨g, 0, none⟩ 0 (5, cur.size) (by have hg' : w.drew.heap[g]? = some (.cells cur 5 (0, 0)) := hg; simp [World.shape?, hg'])
        have c2 : (w.drew.alloc (.view ⟨g, 0, none⟩ 5)).cell? ⟨b, o + 1, none⟩ = some (.slice (some ⟨g, 0, none⟩) 0 0) := (Lib.cell_of_heap (show (w.drew.alloc (.view ⟨g, 0, none⟩ 5)).heap[b]? = some (.cells cs T (0, 0)) from (Lib.alloc_old w.drew _ b hlt).trans h.blk) _).trans h.at1
        have c3 : (w.alloc (.view ⟨g, 0, none⟩ 5)).drew.cell? ⟨b, o + 1, none⟩ = some (.slice (some ⟨g, 0, none⟩) 0 0) := c2
        have c0 : w.cell? ⟨b, o + 1, none⟩ = some (.slice (some ⟨g, 0, none⟩) 0 0) := c1
        clear h
        go_enter Try.func89, Try.ntmps89
        go_wp2
        go_region_o
        all_goals (go_wp2; go_ret; exact ⟨rfl, (Below.drew (Below.refl B w)).alloc hBw _, fun k hk _ => Lib.alloc_old w _ k hk⟩)
      · have c1 : w.drew.cell? ⟨b, o + 1, none⟩ = some (.slice (some ⟨g, 0, none⟩) 0 cap) := (Lib.cell_of_heap (show w.drew.heap[b]? = some (.cells cs T (0, 0)) from h.blk) _).trans h.at1
        have hSD : (Builtin.unsafeSliceData_ #[125] 165 #[.slice (some ⟨g, 0, none⟩) 0 cap]).run Try.prog w.drew = .ok (.pointer (some ⟨g, 0, none⟩)) w.drew :=
          Lib.run_unsafeSliceData_row _ _ _ _ _ _ hc0
        clear h hc0
        go_enter Try.func89, Try.ntmps89
        go_wp2
        go_region_o
        all_goals (go_wp2; go_ret; exact ⟨rfl, Below.drew (Below.refl B w), fun _ _ _ => rfl⟩)
    · have hl0 : bs.length ≠ 0 := by simpa using h0
      have c1 : w.drew.cell? ⟨b, o + 1, none⟩ = some (.slice (some ⟨g, 0, none⟩) bs.length cap) := (Lib.cell_of_heap (show w.drew.heap[b]? = some (.cells cs T (0, 0)) from h.blk) _).trans h.at1
      have hSD : (Builtin.unsafeSliceData_ #[125] 165 #[.slice (some ⟨g, 0, none⟩) bs.length cap]).run Try.prog w.drew = .ok (.pointer (some ⟨g, 0, none⟩)) w.drew :=
        Lib.run_unsafeSliceData_row _ _ _ _ _ _ (by omega)
      have hown := h.own
      have hUS2 : (Builtin.unsafeString_ #[165, 3] 9 #[.pointer (some ⟨g, 0, none⟩), .int .i64 bs.length]).run Try.prog w.drew = .ok (.string (toB bs)) (w.drew.freeze ⟨g, 0, none⟩ bs.length) := by
        refine Lib.run_unsafeString_row w.drew 165 3 9 5 hu4 (by kernel_rfl) g cur.size (by have hg' : w.drew.heap[g]? = some (.cells cur 5 (0, 0)) := hg; simp [World.shape?, hg']) bs h0 (by omega) (by unfold maxLen at hcm; omega) ?_
        intro j x hx
        have := hown.cells (g := g) rfl j (.int .u8 x.toNat) (by simp [Lib.byteCells, hx])
        exact this
      clear hUS
      go_enter Try.func89, Try.ntmps89
      go_wp2
      go_region_o
      all_goals (go_wp2; go_ret; refine ⟨rfl, Lib.below_freeze (Below.drew (Below.refl B w)) (p := ⟨g, 0, none⟩) hbg _, fun k _ hk => ?_⟩)
      all_goals exact bld_freeze_old w.drew g k bs.length (fun e => hk (by simp [Value.ownBlock, e]))
end Go.Proofs.Ytfiamddinkokbaa
end

section
set_option linter.unusedVariables false
set_option linter.unusedSimpArgs false
namespace Go.Proofs.Ytfiamddinkokbaa.F
open Go.RowKit Go.Shelf Go.Proofs.YtfiamddinkokbaaW.PrintWords
set_option linter.unusedVariables false
set_option linter.unusedSimpArgs false
def Pr (B b : Nat) (wd : Int) (lk : Bool) (bs : List UInt8) (w : World) : Prop :=
  ∃ p v, BldAt 129 0 B b #[p, v, .int .i64 wd, .bool lk] p v bs w
theorem Pr.below {B b : Nat} {wd : Int} {lk : Bool} {bs : List UInt8} {w w' : World} (h : Pr B b wd lk bs w) (hb : Below w.heap.size w w') : Pr B b wd lk bs w' := by
  obtain ⟨p, v, h⟩ := h
  refine ⟨p, v, ⟨h.lo, (hb.block b h.lt).trans h.blk, h.at0, h.at1, h.ptr, ?_, h.ne⟩⟩
  exact own_move h.own (fun k hk => hb.block k (own_lt h.own k hk))
theorem Pr.wd {B b : Nat} {wd : Int} {lk : Bool} {bs : List UInt8} {w : World} (h : Pr B b wd lk bs w) : w.cell? ⟨b, 2, none⟩ = some (.int .i64 wd) := by
  obtain ⟨p, v, h⟩ := h; exact (Lib.cell_of_heap h.blk 2).trans rfl
theorem Pr.lk {B b : Nat} {wd : Int} {lk : Bool} {bs : List UInt8} {w : World} (h : Pr B b wd lk bs w) : w.cell? ⟨b, 3, none⟩ = some (.bool lk) := by
  obtain ⟨p, v, h⟩ := h; exact (Lib.cell_of_heap h.blk 3).trans rfl
theorem Pr.fz {B b : Nat} {wd : Int} {lk : Bool} {bs : List UInt8} {w : World} (h : Pr B b wd lk bs w) (i : Nat) : w.frozen? ⟨b, i, none⟩ = false := by
  obtain ⟨p, v, h⟩ := h; exact Lib.frozen_of_heap h.blk i
theorem Pr.lo {B b : Nat} {wd : Int} {lk : Bool} {bs : List UInt8} {w : World} (h : Pr B b wd lk bs w) : B ≤ b := by obtain ⟨p, v, h⟩ := h; exact h.lo
theorem Pr.lt {B b : Nat} {wd : Int} {lk : Bool} {bs : List UInt8} {w : World} (h : Pr B b wd lk bs w) : b < w.heap.size := by obtain ⟨p, v, h⟩ := h; exact h.lt
theorem Pr.put {B b : Nat} {wd : Int} {lk : Bool} {bs : List UInt8} {w : World} (h : Pr B b wd lk bs w) (l : Bool) : Pr B b wd l bs (w.setCell ⟨b, 3, none⟩ (.bool l)) := by
  obtain ⟨p, v, h⟩ := h
  refine ⟨p, v, ⟨h.lo, ?_, rfl, rfl, h.ptr, ?_, h.ne⟩⟩
  · have := h.blk
    simp [World.setCell, Array.getElem?_modify, this]
  · exact own_move h.own (fun k hk => Below.heap_setCell _ _ _ _ (fun e => h.ne (by rw [hk, e])))
def KeepT (b : Nat) (w w' : World) : Prop := ∀ k cs t fr, w.heap[k]? = some (.cells cs t fr) → t ≠ 5 → k ≠ b → w'.heap[k]? = w.heap[k]?
theorem KeepT.refl (b : Nat) (w : World) : KeepT b w w := fun _ _ _ _ _ _ _ => rfl
theorem KeepT.trans {b : Nat} {w w1 w2 : World} (h : KeepT b w w1) (g : KeepT b w1 w2) : KeepT b w w2 := fun k cs t fr hk ht hb => by
  have h1 := h k cs t fr hk ht hb
  rw [g k cs t fr (h1.trans hk) ht hb, h1]
theorem KeepT.below {b : Nat} {w w' : World} (h : Below w.heap.size w w') : KeepT b w w' := fun k cs t fr hk _ _ => h.block k (Array.getElem?_eq_some_iff.1 hk).1
theorem KeepT.set {b : Nat} {w w' : World} (h : KeepT b w w') (i : Nat) (v : Value) : KeepT b w (w'.setCell ⟨b, i, none⟩ v) := fun k cs t fr hk ht hb => by
  rw [Below.heap_setCell _ _ _ _ hb]; exact h k cs t fr hk ht hb
theorem KeepT.drewN {b : Nat} {w w' : World} (h : KeepT b w w') (n : Nat) : KeepT b w (w'.drewN n) := fun k cs t fr hk ht hb => (h k cs t fr hk ht hb)
theorem KeepT.cell {b : Nat} {w w' : World} (h : KeepT b w w') {k : Nat} {cs : Array Value} {t : TypeId} (hk : w.heap[k]? = some (.cells cs t (0, 0))) (ht : t ≠ 5) (hb : k ≠ b) : w'.heap[k]? = some (.cells cs t (0, 0)) :=
  (h k cs t (0, 0) hk ht hb).trans hk
theorem pr_write {B b : Nat} {wd : Int} {lk : Bool} {bs : List UInt8} {w : World} (s : ByteArray) (h : Pr B b wd lk bs w) (hlen : bs.length + s.size ≤ 140737488355328) (hBw : B ≤ w.heap.size) :
    Calls Try.prog 87 #[.pointer (some ⟨b, 0, none⟩), .string s] w fun e w' => e = .returned (.tuple #[.int .i64 s.size, .nilIface]) ∧ Pr B b wd lk (bs ++ s.data.toList) w' ∧ Below B w w' ∧ KeepT b w w' := by
  obtain ⟨p, v, h⟩ := h
  refine (bld_write s h (by kernel_rfl) (by decide) hlen hBw).mono ?_
  rintro e w' ⟨rfl, v', h', hb, hk⟩
  refine ⟨rfl, ⟨_, v', h'⟩, hb, fun k cs t fr hkk ht hkb => hk k (Array.getElem?_eq_some_iff.1 hkk).1 hkb (fun e => ?_)⟩
  obtain ⟨cells, hc⟩ := own_typed h.own k e.symm
  rw [hkk] at hc
  injection hc with hc
  injection hc with _ hc _
  exact ht hc
theorem pr_drawn {n : Nat} {w w' : World} (h : Below n w.drew w') : Below n w w' := ⟨h.os, h.tape, h.output, h.size, h.block⟩
set_option maxHeartbeats 8000000 in
set_option maxRecDepth 100000 in
theorem pr_marker {B b : Nat} {wd : Int} {lk : Bool} {bs : List UInt8} {w : World} (k : Int) (lb : ByteArray) (h : Pr B b wd lk bs w) (h0 : 0 ≤ k) (h1 : k < 128) (w0 : 0 ≤ wd) (w1 : wd ≤ 1073741824) (hl : lb.size ≤ 4000000000)
    (hlen : bs.length + (lineB k lk lb wd).size ≤ 140737488355328) (hBw : B ≤ w.heap.size) :
    Calls Try.prog 124 #[.pointer (some ⟨b, 0, none⟩), .int .u8 k, .string lb] w fun e w' => e = .returned (.tuple #[]) ∧ Pr B b wd false (bs ++ (lineB k lk lb wd).data.toList) w' ∧ Below B w w' ∧ KeepT b w w' := by
  have HL := fun W => line_calls k lk lb wd W h0 h1 w0 w1 hl
  have HP := Aside0.mk h
  have c2 := h.wd
  have c3 := h.lk
  have HBw := Aside0.mk hBw
  generalize lineB k lk lb wd = ln at HL hlen ⊢
  clear hl h hBw
  go_enter Try.func124, Try.ntmps124
  go_wp2_with fail
  go_region_with ((first
    | (go_at_call 96; refine (HL _).mono ?_; rintro e w1 ⟨rfl, hb1⟩; have HP1 := Aside0.mk (HP.out.below (pr_drawn hb1)); have HB1 := Aside0.mk (Below.mono (pr_drawn hb1) HBw.out); have HK1 := Aside0.mk (KeepT.below (b := b) (w := w) (pr_drawn hb1)); clear hb1)
    | (go_at_call 87; refine (pr_write ln HP1.out hlen (Nat.le_trans HBw.out HB1.out.size)).mono ?_; rintro e w2 ⟨rfl, hp2, hb2, hk2⟩)))
  all_goals have f3 := hp2.fz 3
  all_goals have d3 := hp2.lk
  all_goals have BB := Aside0.mk (Below.trans HB1.out hb2)
  all_goals have HK2 := Aside0.mk (KeepT.trans HK1.out hk2)
  all_goals have HP2 := Aside0.mk hp2
  all_goals clear hp2 hb2 HP HP1 HB1 hk2 HK1
  all_goals go_wp2
  all_goals go_end0
  all_goals exact ⟨rfl, HP2.out.put false, Below.setCell (p := ⟨b, 3, none⟩) BB.out HP2.out.lo _, HK2.out.set 3 _⟩
theorem pr_step {B b : Nat} {wd : Int} {lk : Bool} {bs : List UInt8} {w : World} (h : Pr B b wd lk bs w) (nd : Nat) (l : Bool) : Pr B b wd l bs ((w.drewN nd).setCell ⟨b, 3, none⟩ (.bool l)) :=
  (h.below (pw_below_drewN (Below.refl _ _) nd)).put l
theorem pr_size {B b : Nat} {w w1 : World} (h : B ≤ w.heap.size) (hb : Below B w w1) (nd : Nat) (l : Bool) : B ≤ ((w1.drewN nd).setCell ⟨b, 3, none⟩ (.bool l)).heap.size := by
  have := hb.size
  simp [World.setCell]; omega
theorem size_dataL (s : ByteArray) : s.data.toList.length = s.size := Array.length_toList
def lacksB (s : ByteArray) (q : Bool) : Bool := !s.toList.isEmpty && !q
def sideL (s : ByteArray) (q : Bool) : List UInt8 := s.data.toList ++ (if lacksB s q = true then [10] else [])
set_option maxHeartbeats 8000000 in
set_option maxRecDepth 100000 in
theorem pr_side {B b : Nat} {wd : Int} {lk : Bool} {bs : List UInt8} {w : World} (s : ByteArray) (q : Bool) (h : Pr B b wd lk bs w) (hq : strings_HasSuffix.f s ⟨#[10]⟩ = some q)
    (hlen : bs.length + s.size + 1 ≤ 140737488355328) (hBw : B ≤ w.heap.size) :
    Calls Try.prog 125 #[.pointer (some ⟨b, 0, none⟩), .string s] w fun e w' => e = .returned (.tuple #[]) ∧ Pr B b wd (lacksB s q) (bs ++ sideL s q) w' ∧ Below B w w' ∧ KeepT b w w' := by
  have HQ := fun W => strings_HasSuffix.calls s ⟨#[10]⟩ q W hq
  have HP := Aside0.mk h
  have HBw := Aside0.mk hBw
  have HD := size_dataL s
  clear h hBw
  have hsz : (⟨#[10]⟩ : ByteArray).size = 1 := rfl
  have hlen2 : bs.length + s.size ≤ 140737488355328 := by omega
  have hlen3 : (bs ++ s.data.toList).length + (⟨#[10]⟩ : ByteArray).size ≤ 140737488355328 := by rw [List.length_append, HD, hsz]; omega
  go_enter Try.func125, Try.ntmps125
  go_wp2_with (first
    | (go_at_call_of 87 (Value.string s); refine (pr_write s HP.out hlen2 HBw.out).mono ?_; rintro e w1 ⟨rfl, hp1, hb1, hk1⟩; have f3 := hp1.fz 3; have d3 := hp1.lk; have HP1 := Aside0.mk hp1; have HB1 := Aside0.mk hb1; have HK1 := Aside0.mk hk1; clear HP hp1 hb1 hk1)
    | (go_at_call_of 87 (Value.string ⟨#[10]⟩); refine (pr_write ⟨#[10]⟩ (pr_step HP1.out nd true) hlen3 (pr_size HBw.out HB1.out nd true)).mono ?_; rintro e w3 ⟨rfl, hp3, hb3, hk3⟩; have HP3 := Aside0.mk hp3; have HB3 := Aside0.mk hb3; have HK3 := Aside0.mk hk3; clear hp3 hb3 hk3)
    | (go_at_call 115; refine (HQ _).mono ?_; rintro e w2 ⟨rfl, nd, rfl⟩))
  · go_end0
    have hl : lacksB s q = false := by unfold lacksB; simp_all
    rw [hl]
    have hs : sideL s q = s.data.toList := by unfold sideL; rw [hl]; simp
    rw [hs]
    exact ⟨rfl, HP1.out.put false, Below.setCell (p := ⟨b, 3, none⟩) HB1.out HP1.out.lo _, HK1.out.set 3 _⟩
  · go_end0
    have hl : lacksB s q = true := by unfold lacksB; simp_all
    rw [hl]
    have hs : sideL s q = s.data.toList ++ [10] := by unfold sideL; rw [hl]; rfl
    rw [hs, ← List.append_assoc]
    exact ⟨rfl, HP3.out, Below.trans (Below.setCell (p := ⟨b, 3, none⟩) (pw_below_drewN HB1.out nd) HP1.out.lo _) HB3.out, KeepT.trans ((HK1.out.drewN nd).set 3 _) HK3.out⟩
  · go_end0
    have hl : (!s.toList.isEmpty && !q) = false := by simp_all
    rw [hl]
    have hl' : lacksB s q = false := hl
    rw [hl']
    have hs : sideL s q = s.data.toList := by unfold sideL; rw [hl']; simp
    rw [hs]
    exact ⟨rfl, pr_step HP1.out nd false, Below.setCell (p := ⟨b, 3, none⟩) (pw_below_drewN HB1.out nd) HP1.out.lo _, (HK1.out.drewN nd).set 3 _⟩
end Go.Proofs.Ytfiamddinkokbaa.F
end

section
set_option linter.unusedVariables false
set_option linter.unusedSimpArgs false
namespace Go.Proofs.Ytfiamddinkokbaa.F
open Go.RowKit Go.Shelf Go.Proofs.YtfiamddinkokbaaW.PrintWords
set_option linter.unusedVariables false
set_option linter.unusedSimpArgs false
theorem lineB_size (k : Int) (fl : Bool) (lb : ByteArray) (wd : Int) (h1 : wd ≤ 1073741824) : (lineB k fl lb wd).size ≤ 1073741824 + lb.size + 3 := by
  unfold lineB
  rw [ln_size_toB]
  simp only [List.length_append, List.length_replicate]
  have h2 : wd.toNat ≤ 1073741824 := by omega
  have h3 : (if fl = true then ([33] : List UInt8) else []).length ≤ 1 := by split <;> simp
  have h4 : (if lb.toList.isEmpty = true then ([] : List UInt8) else 32 :: lb.data.toList).length ≤ lb.size + 1 := by
    split
    · simp
    · simp only [List.length_cons, size_dataL]; omega
  simp only [List.length_singleton]
  omega
theorem sideL_length (s : ByteArray) (q : Bool) : (sideL s q).length ≤ s.size + 1 := by
  unfold sideL
  rw [List.length_append, size_dataL]
  split <;> simp
def lineL (k : Int) (fl : Bool) (lb : ByteArray) (wd : Int) : List UInt8 := (lineB k fl lb wd).data.toList
theorem lineL_length (k : Int) (fl : Bool) (lb : ByteArray) (wd : Int) (h1 : wd ≤ 1073741824) : (lineL k fl lb wd).length ≤ 1073741824 + lb.size + 3 := by
  unfold lineL; rw [size_dataL]; exact lineB_size k fl lb wd h1
def hunkL (wd : Int) (lk : Bool) (x : S106) (qL qB qR : Bool) : List UInt8 :=
  lineL 60 lk x.f0.f0 wd ++ sideL x.f3 qL ++ (if x.f6 = true then lineL 124 (lacksB x.f3 qL) x.f0.f1 wd ++ sideL x.f4 qB else []) ++
    lineL 61 (if x.f6 = true then lacksB x.f4 qB else lacksB x.f3 qL) ⟨#[]⟩ wd ++ sideL x.f5 qR ++ lineL 62 (lacksB x.f5 qR) x.f0.f2 wd
set_option maxHeartbeats 8000000 in
set_option maxRecDepth 100000 in
theorem pr_hunk {B b : Nat} {wd : Int} {lk : Bool} {bs : List UInt8} {w : World} (x : S106) (qL qB qR : Bool) (h : Pr B b wd lk bs w) (w0 : 0 ≤ wd) (w1 : wd ≤ 1073741824)
    (t0 : x.f0.f0.size ≤ 4000000000) (t1 : x.f0.f1.size ≤ 4000000000) (t2 : x.f0.f2.size ≤ 4000000000) (t3 : x.f3.size ≤ 4000000000) (t4 : x.f4.size ≤ 4000000000) (t5 : x.f5.size ≤ 4000000000)
    (eL : strings_HasSuffix.f x.f3 ⟨#[10]⟩ = some qL) (eB : strings_HasSuffix.f x.f4 ⟨#[10]⟩ = some qB) (eR : strings_HasSuffix.f x.f5 ⟨#[10]⟩ = some qR)
    (hlen : bs.length + 40000000000 ≤ 140737488355328) (hBw : B ≤ w.heap.size) :
    Calls Try.prog 88 #[.pointer (some ⟨b, 0, none⟩), .agg #[.string x.f0.f0, .string x.f0.f1, .string x.f0.f2, .bool x.f1, .string x.f2, .string x.f3, .string x.f4, .string x.f5, .bool x.f6]] w fun e w' =>
      e = .returned (.tuple #[]) ∧ Pr B b wd false (bs ++ hunkL wd lk x qL qB qR) w' ∧ Below B w w' ∧ KeepT b w w' := by
  obtain ⟨⟨l0, l1, l2⟩, hk, tx, s3, s4, s5, hb⟩ := x
  dsimp only at *
  have M := fun (k : Int) (lb : ByteArray) (lk : Bool) (bs : List UInt8) (W : World) (h0 : 0 ≤ k) (h1 : k < 128) (hl : lb.size ≤ 4000000000) (hlen : bs.length + 6000000000 ≤ 140737488355328) (hB : B ≤ W.heap.size) (h : Pr B b wd lk bs W) =>
    pr_marker k lb h h0 h1 w0 w1 hl (by have := lineB_size k lk lb wd w1; omega) hB
  have SD := fun (s : ByteArray) (q : Bool) (lk : Bool) (bs : List UInt8) (W : World) (hq : strings_HasSuffix.f s ⟨#[10]⟩ = some q) (hs : s.size ≤ 4000000000) (hlen : bs.length + 6000000000 ≤ 140737488355328) (hB : B ≤ W.heap.size) (h : Pr B b wd lk bs W) =>
    pr_side s q h hq (by omega) hB
  have HP := Aside0.mk (h.below (below_alloc (Below.refl w.heap.size w) (.cells #[.string l0, .string l1, .string l2, .bool hk, .string tx, .string s3, .string s4, .string s5, .bool hb] 106)))
  have HB := Aside0.mk (Below.mono (below_alloc (Below.refl w.heap.size w) (.cells #[.string l0, .string l1, .string l2, .bool hk, .string tx, .string s3, .string s4, .string s5, .bool hb] 106)) hBw)
  have HK := Aside0.mk (KeepT.below (b := b) (below_alloc (Below.refl w.heap.size w) (.cells #[.string l0, .string l1, .string l2, .bool hk, .string tx, .string s3, .string s4, .string s5, .bool hb] 106)))
  have hblk := World.alloc_heap_new w (.cells #[.string l0, .string l1, .string l2, .bool hk, .string tx, .string s3, .string s4, .string s5, .bool hb] 106)
  have hne : w.heap.size ≠ b := by have := h.lt; omega
  have hsz := HB.out.size
  have HN : Aside0 (bs.length + 40000000000 ≤ 140737488355328) := ⟨hlen⟩
  have tE : (⟨#[]⟩ : ByteArray).size ≤ 4000000000 := by decide
  generalize hn0 : w.heap.size = n0 at hblk hne
  generalize hW1 : w.alloc (.cells #[.string l0, .string l1, .string l2, .bool hk, .string tx, .string s3, .string s4, .string s5, .bool hb] 106) = W1 at *
  cases hb with
  | false =>
    have k0 := (blk_cell hblk 0).trans (rfl : _ = some (Value.string l0))
    have k1 := (blk_cell hblk 1).trans (rfl : _ = some (Value.string l1))
    have k2 := (blk_cell hblk 2).trans (rfl : _ = some (Value.string l2))
    have k5 := (blk_cell hblk 5).trans (rfl : _ = some (Value.string s3))
    have k6 := (blk_cell hblk 6).trans (rfl : _ = some (Value.string s4))
    have k7 := (blk_cell hblk 7).trans (rfl : _ = some (Value.string s5))
    have k8 := (blk_cell hblk 8).trans (rfl : _ = some (Value.bool false))
    go_enter Try.func88, Try.ntmps88
    go_wp2_with (first
      | (go_at_call_of 124 (Value.int .u8 60); refine (M 60 l0 _ _ _ (by omega) (by omega) t0 (by have := HN.out; omega) (Nat.le_trans hBw hsz) HP.out).mono ?_; rintro e W ⟨rfl, hp_, hb_, hk_⟩; replace hblk := hk_.cell hblk (by decide) hne; (try clear k0); (try clear k1); (try clear k2); (try clear k5); (try clear k6); (try clear k7); (try clear k8); have k0 := (blk_cell hblk 0).trans (rfl : _ = some (Value.string l0)); have k1 := (blk_cell hblk 1).trans (rfl : _ = some (Value.string l1)); have k2 := (blk_cell hblk 2).trans (rfl : _ = some (Value.string l2)); have k5 := (blk_cell hblk 5).trans (rfl : _ = some (Value.string s3)); have k6 := (blk_cell hblk 6).trans (rfl : _ = some (Value.string s4)); have k7 := (blk_cell hblk 7).trans (rfl : _ = some (Value.string s5)); have k8 := (blk_cell hblk 8).trans (rfl : _ = some (Value.bool false)); replace HP := Aside0.mk hp_; replace hsz := Nat.le_trans hsz hb_.size; replace HB := Aside0.mk (Below.trans HB.out hb_); replace HK := Aside0.mk (KeepT.trans HK.out hk_); clear hp_ hb_ hk_; replace HN : Aside0 ((bs ++ (lineB 60 lk l0 wd).data.toList).length + 34926258173 ≤ 140737488355328) := ⟨by rw [List.length_append, size_dataL]; have := lineB_size 60 lk l0 wd w1; have := HN.out; omega⟩)
      | (go_at_call_of 125 (Value.string s3); refine (SD s3 qL _ _ _ eL t3 (by have := HN.out; omega) (Nat.le_trans hBw hsz) HP.out).mono ?_; rintro e W ⟨rfl, hp_, hb_, hk_⟩; replace hblk := hk_.cell hblk (by decide) hne; (try clear k0); (try clear k1); (try clear k2); (try clear k5); (try clear k6); (try clear k7); (try clear k8); have k0 := (blk_cell hblk 0).trans (rfl : _ = some (Value.string l0)); have k1 := (blk_cell hblk 1).trans (rfl : _ = some (Value.string l1)); have k2 := (blk_cell hblk 2).trans (rfl : _ = some (Value.string l2)); have k5 := (blk_cell hblk 5).trans (rfl : _ = some (Value.string s3)); have k6 := (blk_cell hblk 6).trans (rfl : _ = some (Value.string s4)); have k7 := (blk_cell hblk 7).trans (rfl : _ = some (Value.string s5)); have k8 := (blk_cell hblk 8).trans (rfl : _ = some (Value.bool false)); replace HP := Aside0.mk hp_; replace hsz := Nat.le_trans hsz hb_.size; replace HB := Aside0.mk (Below.trans HB.out hb_); replace HK := Aside0.mk (KeepT.trans HK.out hk_); clear hp_ hb_ hk_; replace HN : Aside0 (((bs ++ (lineB 60 lk l0 wd).data.toList) ++ sideL s3 qL).length + 30926258172 ≤ 140737488355328) := ⟨by rw [List.length_append]; have := sideL_length s3 qL; have := HN.out; omega⟩)
      | (go_at_call_of 124 (Value.int .u8 61); refine (M 61 ⟨#[]⟩ _ _ _ (by omega) (by omega) tE (by have := HN.out; omega) (Nat.le_trans hBw hsz) HP.out).mono ?_; rintro e W ⟨rfl, hp_, hb_, hk_⟩; replace hblk := hk_.cell hblk (by decide) hne; (try clear k0); (try clear k1); (try clear k2); (try clear k5); (try clear k6); (try clear k7); (try clear k8); have k0 := (blk_cell hblk 0).trans (rfl : _ = some (Value.string l0)); have k1 := (blk_cell hblk 1).trans (rfl : _ = some (Value.string l1)); have k2 := (blk_cell hblk 2).trans (rfl : _ = some (Value.string l2)); have k5 := (blk_cell hblk 5).trans (rfl : _ = some (Value.string s3)); have k6 := (blk_cell hblk 6).trans (rfl : _ = some (Value.string s4)); have k7 := (blk_cell hblk 7).trans (rfl : _ = some (Value.string s5)); have k8 := (blk_cell hblk 8).trans (rfl : _ = some (Value.bool false)); replace HP := Aside0.mk hp_; replace hsz := Nat.le_trans hsz hb_.size; replace HB := Aside0.mk (Below.trans HB.out hb_); replace HK := Aside0.mk (KeepT.trans HK.out hk_); clear hp_ hb_ hk_; replace HN : Aside0 ((((bs ++ (lineB 60 lk l0 wd).data.toList) ++ sideL s3 qL) ++ (lineB 61 (lacksB s3 qL) ⟨#[]⟩ wd).data.toList).length + 25852516345 ≤ 140737488355328) := ⟨by rw [List.length_append, size_dataL]; have := lineB_size 61 (lacksB s3 qL) ⟨#[]⟩ wd w1; have := HN.out; omega⟩)
      | (go_at_call_of 125 (Value.string s5); refine (SD s5 qR _ _ _ eR t5 (by have := HN.out; omega) (Nat.le_trans hBw hsz) HP.out).mono ?_; rintro e W ⟨rfl, hp_, hb_, hk_⟩; replace hblk := hk_.cell hblk (by decide) hne; (try clear k0); (try clear k1); (try clear k2); (try clear k5); (try clear k6); (try clear k7); (try clear k8); have k0 := (blk_cell hblk 0).trans (rfl : _ = some (Value.string l0)); have k1 := (blk_cell hblk 1).trans (rfl : _ = some (Value.string l1)); have k2 := (blk_cell hblk 2).trans (rfl : _ = some (Value.string l2)); have k5 := (blk_cell hblk 5).trans (rfl : _ = some (Value.string s3)); have k6 := (blk_cell hblk 6).trans (rfl : _ = some (Value.string s4)); have k7 := (blk_cell hblk 7).trans (rfl : _ = some (Value.string s5)); have k8 := (blk_cell hblk 8).trans (rfl : _ = some (Value.bool false)); replace HP := Aside0.mk hp_; replace hsz := Nat.le_trans hsz hb_.size; replace HB := Aside0.mk (Below.trans HB.out hb_); replace HK := Aside0.mk (KeepT.trans HK.out hk_); clear hp_ hb_ hk_; replace HN : Aside0 (((((bs ++ (lineB 60 lk l0 wd).data.toList) ++ sideL s3 qL) ++ (lineB 61 (lacksB s3 qL) ⟨#[]⟩ wd).data.toList) ++ sideL s5 qR).length + 21852516344 ≤ 140737488355328) := ⟨by rw [List.length_append]; have := sideL_length s5 qR; have := HN.out; omega⟩)
      | (go_at_call_of 124 (Value.int .u8 62); refine (M 62 l2 _ _ _ (by omega) (by omega) t2 (by have := HN.out; omega) (Nat.le_trans hBw hsz) HP.out).mono ?_; rintro e W ⟨rfl, hp_, hb_, hk_⟩; replace hblk := hk_.cell hblk (by decide) hne; (try clear k0); (try clear k1); (try clear k2); (try clear k5); (try clear k6); (try clear k7); (try clear k8); have k0 := (blk_cell hblk 0).trans (rfl : _ = some (Value.string l0)); have k1 := (blk_cell hblk 1).trans (rfl : _ = some (Value.string l1)); have k2 := (blk_cell hblk 2).trans (rfl : _ = some (Value.string l2)); have k5 := (blk_cell hblk 5).trans (rfl : _ = some (Value.string s3)); have k6 := (blk_cell hblk 6).trans (rfl : _ = some (Value.string s4)); have k7 := (blk_cell hblk 7).trans (rfl : _ = some (Value.string s5)); have k8 := (blk_cell hblk 8).trans (rfl : _ = some (Value.bool false)); replace HP := Aside0.mk hp_; replace hsz := Nat.le_trans hsz hb_.size; replace HB := Aside0.mk (Below.trans HB.out hb_); replace HK := Aside0.mk (KeepT.trans HK.out hk_); clear hp_ hb_ hk_; replace HN : Aside0 ((((((bs ++ (lineB 60 lk l0 wd).data.toList) ++ sideL s3 qL) ++ (lineB 61 (lacksB s3 qL) ⟨#[]⟩ wd).data.toList) ++ sideL s5 qR) ++ (lineB 62 (lacksB s5 qR) l2 wd).data.toList).length + 16778774517 ≤ 140737488355328) := ⟨by rw [List.length_append, size_dataL]; have := lineB_size 62 (lacksB s5 qR) l2 wd w1; have := HN.out; omega⟩))
    go_end0
    refine ⟨rfl, ?_, HB.out, HK.out⟩
    have hp := HP.out
    simp only [List.append_assoc] at hp
    simp only [hunkL, lineL, List.append_assoc, if_true, if_false, List.nil_append, Bool.false_eq_true]
    exact hp
  | true =>
    have k0 := (blk_cell hblk 0).trans (rfl : _ = some (Value.string l0))
    have k1 := (blk_cell hblk 1).trans (rfl : _ = some (Value.string l1))
    have k2 := (blk_cell hblk 2).trans (rfl : _ = some (Value.string l2))
    have k5 := (blk_cell hblk 5).trans (rfl : _ = some (Value.string s3))
    have k6 := (blk_cell hblk 6).trans (rfl : _ = some (Value.string s4))
    have k7 := (blk_cell hblk 7).trans (rfl : _ = some (Value.string s5))
    have k8 := (blk_cell hblk 8).trans (rfl : _ = some (Value.bool true))
    go_enter Try.func88, Try.ntmps88
    go_wp2_with (first
      | (go_at_call_of 124 (Value.int .u8 60); refine (M 60 l0 _ _ _ (by omega) (by omega) t0 (by have := HN.out; omega) (Nat.le_trans hBw hsz) HP.out).mono ?_; rintro e W ⟨rfl, hp_, hb_, hk_⟩; replace hblk := hk_.cell hblk (by decide) hne; (try clear k0); (try clear k1); (try clear k2); (try clear k5); (try clear k6); (try clear k7); (try clear k8); have k0 := (blk_cell hblk 0).trans (rfl : _ = some (Value.string l0)); have k1 := (blk_cell hblk 1).trans (rfl : _ = some (Value.string l1)); have k2 := (blk_cell hblk 2).trans (rfl : _ = some (Value.string l2)); have k5 := (blk_cell hblk 5).trans (rfl : _ = some (Value.string s3)); have k6 := (blk_cell hblk 6).trans (rfl : _ = some (Value.string s4)); have k7 := (blk_cell hblk 7).trans (rfl : _ = some (Value.string s5)); have k8 := (blk_cell hblk 8).trans (rfl : _ = some (Value.bool true)); replace HP := Aside0.mk hp_; replace hsz := Nat.le_trans hsz hb_.size; replace HB := Aside0.mk (Below.trans HB.out hb_); replace HK := Aside0.mk (KeepT.trans HK.out hk_); clear hp_ hb_ hk_; replace HN : Aside0 ((bs ++ (lineB 60 lk l0 wd).data.toList).length + 34926258173 ≤ 140737488355328) := ⟨by rw [List.length_append, size_dataL]; have := lineB_size 60 lk l0 wd w1; have := HN.out; omega⟩)
      | (go_at_call_of 125 (Value.string s3); refine (SD s3 qL _ _ _ eL t3 (by have := HN.out; omega) (Nat.le_trans hBw hsz) HP.out).mono ?_; rintro e W ⟨rfl, hp_, hb_, hk_⟩; replace hblk := hk_.cell hblk (by decide) hne; (try clear k0); (try clear k1); (try clear k2); (try clear k5); (try clear k6); (try clear k7); (try clear k8); have k0 := (blk_cell hblk 0).trans (rfl : _ = some (Value.string l0)); have k1 := (blk_cell hblk 1).trans (rfl : _ = some (Value.string l1)); have k2 := (blk_cell hblk 2).trans (rfl : _ = some (Value.string l2)); have k5 := (blk_cell hblk 5).trans (rfl : _ = some (Value.string s3)); have k6 := (blk_cell hblk 6).trans (rfl : _ = some (Value.string s4)); have k7 := (blk_cell hblk 7).trans (rfl : _ = some (Value.string s5)); have k8 := (blk_cell hblk 8).trans (rfl : _ = some (Value.bool true)); replace HP := Aside0.mk hp_; replace hsz := Nat.le_trans hsz hb_.size; replace HB := Aside0.mk (Below.trans HB.out hb_); replace HK := Aside0.mk (KeepT.trans HK.out hk_); clear hp_ hb_ hk_; replace HN : Aside0 (((bs ++ (lineB 60 lk l0 wd).data.toList) ++ sideL s3 qL).length + 30926258172 ≤ 140737488355328) := ⟨by rw [List.length_append]; have := sideL_length s3 qL; have := HN.out; omega⟩)
      | (go_at_call_of 124 (Value.int .u8 124); refine (M 124 l1 _ _ _ (by omega) (by omega) t1 (by have := HN.out; omega) (Nat.le_trans hBw hsz) HP.out).mono ?_; rintro e W ⟨rfl, hp_, hb_, hk_⟩; replace hblk := hk_.cell hblk (by decide) hne; (try clear k0); (try clear k1); (try clear k2); (try clear k5); (try clear k6); (try clear k7); (try clear k8); have k0 := (blk_cell hblk 0).trans (rfl : _ = some (Value.string l0)); have k1 := (blk_cell hblk 1).trans (rfl : _ = some (Value.string l1)); have k2 := (blk_cell hblk 2).trans (rfl : _ = some (Value.string l2)); have k5 := (blk_cell hblk 5).trans (rfl : _ = some (Value.string s3)); have k6 := (blk_cell hblk 6).trans (rfl : _ = some (Value.string s4)); have k7 := (blk_cell hblk 7).trans (rfl : _ = some (Value.string s5)); have k8 := (blk_cell hblk 8).trans (rfl : _ = some (Value.bool true)); replace HP := Aside0.mk hp_; replace hsz := Nat.le_trans hsz hb_.size; replace HB := Aside0.mk (Below.trans HB.out hb_); replace HK := Aside0.mk (KeepT.trans HK.out hk_); clear hp_ hb_ hk_; replace HN : Aside0 ((((bs ++ (lineB 60 lk l0 wd).data.toList) ++ sideL s3 qL) ++ (lineB 124 (lacksB s3 qL) l1 wd).data.toList).length + 25852516345 ≤ 140737488355328) := ⟨by rw [List.length_append, size_dataL]; have := lineB_size 124 (lacksB s3 qL) l1 wd w1; have := HN.out; omega⟩)
      | (go_at_call_of 125 (Value.string s4); refine (SD s4 qB _ _ _ eB t4 (by have := HN.out; omega) (Nat.le_trans hBw hsz) HP.out).mono ?_; rintro e W ⟨rfl, hp_, hb_, hk_⟩; replace hblk := hk_.cell hblk (by decide) hne; (try clear k0); (try clear k1); (try clear k2); (try clear k5); (try clear k6); (try clear k7); (try clear k8); have k0 := (blk_cell hblk 0).trans (rfl : _ = some (Value.string l0)); have k1 := (blk_cell hblk 1).trans (rfl : _ = some (Value.string l1)); have k2 := (blk_cell hblk 2).trans (rfl : _ = some (Value.string l2)); have k5 := (blk_cell hblk 5).trans (rfl : _ = some (Value.string s3)); have k6 := (blk_cell hblk 6).trans (rfl : _ = some (Value.string s4)); have k7 := (blk_cell hblk 7).trans (rfl : _ = some (Value.string s5)); have k8 := (blk_cell hblk 8).trans (rfl : _ = some (Value.bool true)); replace HP := Aside0.mk hp_; replace hsz := Nat.le_trans hsz hb_.size; replace HB := Aside0.mk (Below.trans HB.out hb_); replace HK := Aside0.mk (KeepT.trans HK.out hk_); clear hp_ hb_ hk_; replace HN : Aside0 (((((bs ++ (lineB 60 lk l0 wd).data.toList) ++ sideL s3 qL) ++ (lineB 124 (lacksB s3 qL) l1 wd).data.toList) ++ sideL s4 qB).length + 21852516344 ≤ 140737488355328) := ⟨by rw [List.length_append]; have := sideL_length s4 qB; have := HN.out; omega⟩)
      | (go_at_call_of 124 (Value.int .u8 61); refine (M 61 ⟨#[]⟩ _ _ _ (by omega) (by omega) tE (by have := HN.out; omega) (Nat.le_trans hBw hsz) HP.out).mono ?_; rintro e W ⟨rfl, hp_, hb_, hk_⟩; replace hblk := hk_.cell hblk (by decide) hne; (try clear k0); (try clear k1); (try clear k2); (try clear k5); (try clear k6); (try clear k7); (try clear k8); have k0 := (blk_cell hblk 0).trans (rfl : _ = some (Value.string l0)); have k1 := (blk_cell hblk 1).trans (rfl : _ = some (Value.string l1)); have k2 := (blk_cell hblk 2).trans (rfl : _ = some (Value.string l2)); have k5 := (blk_cell hblk 5).trans (rfl : _ = some (Value.string s3)); have k6 := (blk_cell hblk 6).trans (rfl : _ = some (Value.string s4)); have k7 := (blk_cell hblk 7).trans (rfl : _ = some (Value.string s5)); have k8 := (blk_cell hblk 8).trans (rfl : _ = some (Value.bool true)); replace HP := Aside0.mk hp_; replace hsz := Nat.le_trans hsz hb_.size; replace HB := Aside0.mk (Below.trans HB.out hb_); replace HK := Aside0.mk (KeepT.trans HK.out hk_); clear hp_ hb_ hk_; replace HN : Aside0 ((((((bs ++ (lineB 60 lk l0 wd).data.toList) ++ sideL s3 qL) ++ (lineB 124 (lacksB s3 qL) l1 wd).data.toList) ++ sideL s4 qB) ++ (lineB 61 (lacksB s4 qB) ⟨#[]⟩ wd).data.toList).length + 16778774517 ≤ 140737488355328) := ⟨by rw [List.length_append, size_dataL]; have := lineB_size 61 (lacksB s4 qB) ⟨#[]⟩ wd w1; have := HN.out; omega⟩)
      | (go_at_call_of 125 (Value.string s5); refine (SD s5 qR _ _ _ eR t5 (by have := HN.out; omega) (Nat.le_trans hBw hsz) HP.out).mono ?_; rintro e W ⟨rfl, hp_, hb_, hk_⟩; replace hblk := hk_.cell hblk (by decide) hne; (try clear k0); (try clear k1); (try clear k2); (try clear k5); (try clear k6); (try clear k7); (try clear k8); have k0 := (blk_cell hblk 0).trans (rfl : _ = some (Value.string l0)); have k1 := (blk_cell hblk 1).trans (rfl : _ = some (Value.string l1)); have k2 := (blk_cell hblk 2).trans (rfl : _ = some (Value.string l2)); have k5 := (blk_cell hblk 5).trans (rfl : _ = some (Value.string s3)); have k6 := (blk_cell hblk 6).trans (rfl : _ = some (Value.string s4)); have k7 := (blk_cell hblk 7).trans (rfl : _ = some (Value.string s5)); have k8 := (blk_cell hblk 8).trans (rfl : _ = some (Value.bool true)); replace HP := Aside0.mk hp_; replace hsz := Nat.le_trans hsz hb_.size; replace HB := Aside0.mk (Below.trans HB.out hb_); replace HK := Aside0.mk (KeepT.trans HK.out hk_); clear hp_ hb_ hk_; replace HN : Aside0 (((((((bs ++ (lineB 60 lk l0 wd).data.toList) ++ sideL s3 qL) ++ (lineB 124 (lacksB s3 qL) l1 wd).data.toList) ++ sideL s4 qB) ++ (lineB 61 (lacksB s4 qB) ⟨#[]⟩ wd).data.toList) ++ sideL s5 qR).length + 12778774516 ≤ 140737488355328) := ⟨by rw [List.length_append]; have := sideL_length s5 qR; have := HN.out; omega⟩)
      | (go_at_call_of 124 (Value.int .u8 62); refine (M 62 l2 _ _ _ (by omega) (by omega) t2 (by have := HN.out; omega) (Nat.le_trans hBw hsz) HP.out).mono ?_; rintro e W ⟨rfl, hp_, hb_, hk_⟩; replace hblk := hk_.cell hblk (by decide) hne; (try clear k0); (try clear k1); (try clear k2); (try clear k5); (try clear k6); (try clear k7); (try clear k8); have k0 := (blk_cell hblk 0).trans (rfl : _ = some (Value.string l0)); have k1 := (blk_cell hblk 1).trans (rfl : _ = some (Value.string l1)); have k2 := (blk_cell hblk 2).trans (rfl : _ = some (Value.string l2)); have k5 := (blk_cell hblk 5).trans (rfl : _ = some (Value.string s3)); have k6 := (blk_cell hblk 6).trans (rfl : _ = some (Value.string s4)); have k7 := (blk_cell hblk 7).trans (rfl : _ = some (Value.string s5)); have k8 := (blk_cell hblk 8).trans (rfl : _ = some (Value.bool true)); replace HP := Aside0.mk hp_; replace hsz := Nat.le_trans hsz hb_.size; replace HB := Aside0.mk (Below.trans HB.out hb_); replace HK := Aside0.mk (KeepT.trans HK.out hk_); clear hp_ hb_ hk_; replace HN : Aside0 ((((((((bs ++ (lineB 60 lk l0 wd).data.toList) ++ sideL s3 qL) ++ (lineB 124 (lacksB s3 qL) l1 wd).data.toList) ++ sideL s4 qB) ++ (lineB 61 (lacksB s4 qB) ⟨#[]⟩ wd).data.toList) ++ sideL s5 qR) ++ (lineB 62 (lacksB s5 qR) l2 wd).data.toList).length + 7705032689 ≤ 140737488355328) := ⟨by rw [List.length_append, size_dataL]; have := lineB_size 62 (lacksB s5 qR) l2 wd w1; have := HN.out; omega⟩))
    go_end0
    refine ⟨rfl, ?_, HB.out, HK.out⟩
    have hp := HP.out
    simp only [List.append_assoc] at hp
    simp only [hunkL, lineL, List.append_assoc, if_true, if_false, List.nil_append, Bool.false_eq_true]
    exact hp
end Go.Proofs.Ytfiamddinkokbaa.F
end

section
set_option linter.unusedVariables false
set_option linter.unusedSimpArgs false
namespace Go.Proofs.Ytfiamddinkokbaa.F
open Go.RowKit Go.Proofs.YtfiamddinkokbaaW.PrintWords Go.Proofs.YtfiamddinkokbaaW.PrintLast Go.Proofs.YtfiamddinkokbaaW.PrintMore
attribute [local go_sem] max2_int min2_int max_two min_two max_three min_three max_four min_four
set_option linter.unusedVariables false
set_option linter.unusedSimpArgs false
theorem eqA84 (d : Nat) (w : World) (x0 y0 : ByteArray) (x1 y1 : ByteArray) (x2 y2 : ByteArray) :
    (Op.equalIn (d + 2) 84 (.agg #[.string x0, .string x1, .string x2]) (.agg #[.string y0, .string y1, .string y2])).run Try.prog w = .ok (x0.toList == y0.toList && (x1.toList == y1.toList && (x2.toList == y2.toList))) w := by
  refine eqA_of Try.underlying84 (by kernel_rfl) ?_
  refine eqf_cons (by rfl) (by go_simp; rfl) (by go_simp; rfl) (by go_simp) ?_
  refine eqf_cons (by rfl) (by go_simp; rfl) (by go_simp; rfl) (by go_simp) ?_
  exact eqf_last (by rfl) (by go_simp; rfl) (by go_simp; rfl) (by go_simp)
theorem eqA106 (d : Nat) (w : World) (x0 y0 : ByteArray) (x1 y1 : ByteArray) (x2 y2 : ByteArray) (x3 y3 : Bool) (x4 y4 : ByteArray) (x5 y5 : ByteArray) (x6 y6 : ByteArray) (x7 y7 : ByteArray) (x8 y8 : Bool) :
    (Op.equalIn (d + 3) 106 (.agg #[.string x0, .string x1, .string x2, .bool x3, .string x4, .string x5, .string x6, .string x7, .bool x8]) (.agg #[.string y0, .string y1, .string y2, .bool y3, .string y4, .string y5, .string y6, .string y7, .bool y8])).run Try.prog w = .ok ((x0.toList == y0.toList && (x1.toList == y1.toList && (x2.toList == y2.toList))) && (x3 == y3 && (x4.toList == y4.toList && (x5.toList == y5.toList && (x6.toList == y6.toList && (x7.toList == y7.toList && (x8 == y8))))))) w := by
  refine eqA_of Try.underlying106 (by kernel_rfl) ?_
  refine eqf_cons (by rfl) (by go_simp) (by go_simp) (eqA84 (d + 0) w _ _ _ _ _ _) ?_
  refine eqf_cons (by rfl) (by go_simp; rfl) (by go_simp; rfl) (by go_simp) ?_
  refine eqf_cons (by rfl) (by go_simp; rfl) (by go_simp; rfl) (by go_simp) ?_
  refine eqf_cons (by rfl) (by go_simp; rfl) (by go_simp; rfl) (by go_simp) ?_
  refine eqf_cons (by rfl) (by go_simp; rfl) (by go_simp; rfl) (by go_simp) ?_
  refine eqf_cons (by rfl) (by go_simp; rfl) (by go_simp; rfl) (by go_simp) ?_
  exact eqf_last (by rfl) (by go_simp; rfl) (by go_simp; rfl) (by go_simp)
end Go.Proofs.Ytfiamddinkokbaa.F
end

section
set_option linter.unusedVariables false
set_option linter.unusedSimpArgs false
namespace Go.Proofs.Ytfiamddinkokbaa.F
open Go.RowKit Go.Proofs.YtfiamddinkokbaaW.PrintWords Go.Proofs.YtfiamddinkokbaaW.PrintLast Go.Proofs.YtfiamddinkokbaaW.PrintMore
attribute [local go_sem] max2_int min2_int max_two min_two max_three min_three max_four min_four
set_option linter.unusedVariables false
set_option linter.unusedSimpArgs false
attribute [local go_sem high] eqA106
def doc_Part_isText.f (a0_0 : ByteArray) (a0_1 : ByteArray) (a0_2 : ByteArray) (a0_3 : Bool) (a0_4 : ByteArray) (a0_5 : ByteArray) (a0_6 : ByteArray) (a0_7 : ByteArray) (a0_8 : Bool) : Option (Bool) := some ((a0_0.toList.isEmpty && (a0_1.toList.isEmpty && (a0_2.toList.isEmpty))) && (!a0_3 && (a0_5.toList.isEmpty && (a0_6.toList.isEmpty && (a0_7.toList.isEmpty && (!a0_8))))))
set_option maxHeartbeats 8000000 in
set_option maxRecDepth 100000 in
theorem doc_Part_isText.calls (a0_0 : ByteArray) (a0_1 : ByteArray) (a0_2 : ByteArray) (a0_3 : Bool) (a0_4 : ByteArray) (a0_5 : ByteArray) (a0_6 : ByteArray) (a0_7 : ByteArray) (a0_8 : Bool) (r : Bool) (w : World) (h : doc_Part_isText.f a0_0 a0_1 a0_2 a0_3 a0_4 a0_5 a0_6 a0_7 a0_8 = some r) :
    Calls Try.prog 75 #[.agg #[.string a0_0, .string a0_1, .string a0_2, .bool a0_3, .string a0_4, .string a0_5, .string a0_6, .string a0_7, .bool a0_8]] w fun e w' => e = .returned (.bool r) ∧ Below w.heap.size w w' := by
  have hu106 := Try.underlying106
  have HB := Aside0.mk (Below.refl w.heap.size w)
  have H : (some ((a0_0.toList.isEmpty && (a0_1.toList.isEmpty && (a0_2.toList.isEmpty))) && (!a0_3 && (a0_5.toList.isEmpty && (a0_6.toList.isEmpty && (a0_7.toList.isEmpty && (!a0_8))))))) = some r := h
  clear h
  obtain rfl := Option.some.inj H
  go_enter Try.func75, Try.ntmps75
  go_wp2_with (first | ((with_reducible refine gate_dst (N := 1) rfl ?_); refine box_event ?hg (N := 1) ?hd (cs := #[.string a0_0, .string a0_1, .string a0_2, .bool a0_3, .string a0_4, .string a0_5, .string a0_6, .string a0_7, .bool a0_8]) (t := 106) ?hr ?_; (case hd => rfl); (case hg => rfl); (case hr => first | (go_simp; done) | (go_simp; rfl)); intro gb113 hg w2 hbox hb; have n0_ := Aside0.mk (below_step (by repeat (first | (with_reducible first | exact HB.out | apply below_alloc | apply pw_below_drewN | apply below_drew1) | exact HB.out)) hb); have n1_ := Aside0.mk (hbox); have n2_ := Aside0.mk ((by rw [hg]; exact (below_size (by repeat (first | (with_reducible first | exact HB.out | apply below_alloc | apply pw_below_drewN | apply below_drew1) | exact HB.out))) : w.heap.size ≤ gb113)); have n3_ := Aside0.mk ((by rw [hg]; exact (below_size (by repeat (first | (with_reducible first | exact HB.out | apply below_alloc | apply pw_below_drewN | apply below_drew1) | exact HB.out))) : w.heap.size ≤ gb113)); clear HB; have HB := n0_; have BK113 := n1_; have GW113 := n2_; have GE113 := n3_; clear n0_ n1_ n2_ n3_; clear hb hbox hg; have hcz3_0 : w2.cell? ⟨gb113, 0, none⟩ = some (.string a0_0) := (blk_cell BK113.out 0).trans rfl; have hcz3_1 : w2.cell? ⟨gb113, 1, none⟩ = some (.string a0_1) := (blk_cell BK113.out 1).trans rfl; have hcz3_2 : w2.cell? ⟨gb113, 2, none⟩ = some (.string a0_2) := (blk_cell BK113.out 2).trans rfl; have hcz3_3 : w2.cell? ⟨gb113, 3, none⟩ = some (.bool a0_3) := (blk_cell BK113.out 3).trans rfl; have hcz3_4 : w2.cell? ⟨gb113, 4, none⟩ = some (.string a0_4) := (blk_cell BK113.out 4).trans rfl; have hcz3_5 : w2.cell? ⟨gb113, 5, none⟩ = some (.string a0_5) := (blk_cell BK113.out 5).trans rfl; have hcz3_6 : w2.cell? ⟨gb113, 6, none⟩ = some (.string a0_6) := (blk_cell BK113.out 6).trans rfl; have hcz3_7 : w2.cell? ⟨gb113, 7, none⟩ = some (.string a0_7) := (blk_cell BK113.out 7).trans rfl; have hcz3_8 : w2.cell? ⟨gb113, 8, none⟩ = some (.bool a0_8) := (blk_cell BK113.out 8).trans rfl; have hfz3_0 := blk_frozen BK113.out 0; have hfz3_1 := blk_frozen BK113.out 1; have hfz3_2 := blk_frozen BK113.out 2; have hfz3_3 := blk_frozen BK113.out 3; have hfz3_4 := blk_frozen BK113.out 4; have hfz3_5 := blk_frozen BK113.out 5; have hfz3_6 := blk_frozen BK113.out 6; have hfz3_7 := blk_frozen BK113.out 7; have hfz3_8 := blk_frozen BK113.out 8))
  go_ret
  exact ⟨by first | rfl | (simp [errW_none, errW_some] <;> rfl) | (simp [*, errW_none, errW_some] <;> rfl), by repeat (first | (with_reducible first | exact HB.out | apply below_alloc | apply pw_below_drewN | apply below_drew1 | refine below_set ?_ GE113.out) | exact HB.out)⟩
end Go.Proofs.Ytfiamddinkokbaa.F
end
