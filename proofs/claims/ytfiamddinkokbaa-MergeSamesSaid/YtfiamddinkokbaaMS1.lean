/- Texts joined into one file (wip/tools/pack.py): Range, Lines, Shelf, Split, Run, Ext, Number, F0, Builder, Keep, Same, Fn173, Forth, NewRun, Repeat, Fn156, Fn133, Fn157, Fn134 -/
import Derived.RangeFuncBox
import Derived.RangeFuncLeaves
import Derived.Shelf.Abstract
import Derived.WalkKit
import Derived.OwnWalkIn
import Derived.Lib.IndexLaws
import Derived.Shelf.Strings.Builder1
import Derived.Shelf.Strings.Builder2
import Derived.Shelf.Strings.OnBuilder
import Derived.Shelf.Small.Strs
import Derived.Shelf.Small.Wraps
import Derived.Shelf.Strings.BuilderF
import Derived.Shelf.Strings.BuilderK
import Derived.Shelf.Strings.Builder2Cap
import Derived.Shelf.Strings.Search1
import Derived.Shelf.Strings.Search2
import Derived.Shelf.Strings.Search3
import Derived.Shelf.LaysM
import Derived.Shelf.Strings.Shaped
import Derived.Shelf.Strings.Prefix
import Derived.Shelf.Bits.Mul64
import Derived.Shelf.Strings.Repeat
import Derived.Shelf.Strings.BuilderCap
import Derived.Shelf.Slices.Equal
import Derived.Ground.Names2Prog
import Derived.Shelf.Slices.Clone
import Derived.Shelf.Slices.Empties2
import Derived.Test.YtfiamddinkokbaaProg
import Derived.Test.YtfiamddinkokbaaWords1
import Derived.TacticsInMore
import Derived.LoopNIn
import Derived.LoopIn
import Derived.Maps.AppendAt
import Derived.StillTailTactics
import Derived.Lib.Hide
import Derived.Outline
import Derived.Lib.OthersKept
import Derived.Maps.Own
import Derived.Maps.OwnOps
import Derived.Maps.OwnSet
import Derived.Below
import Derived.Deep.Draws
import Derived.Deep.AppendLies
import Derived.OwnWalk
import Derived.Laws.BytesArg
import Derived.Laws.MakeOwn
import Derived.Laws.OwnMore
import Derived.Deep.OwnRows
import Derived.Tactics
import Derived.Lib.ConvBytes
import Derived.Laws.Slices
import Derived.KernelRfl
import Derived.RowKit3
import Derived.Deep.LoopGhost
import Derived.Deep.QuietTactic
import Derived.BigQuiet
import Derived.WideLaws
import Derived.Deep.DeepCutAuto
import Derived.Deep.CutBlock
import Derived.Deep.RegionHeld3
import Derived.Laws.Rows
import Derived.Lib.AppendStr
import Derived.ArgAppend
import Derived.Laws.IdiomCopy
import Derived.OrdersHeld
import Derived.Laws.BitsLemmas
import Derived.RowKit
import Derived.Shelf.RegionOpenPlain
import Derived.Lib.Strings
import Derived.Lib.Slices
import Derived.Lib.Walk
import Derived.Lib.Builder
import Derived.Lib.UnsafeStr
import Derived.Lib.MakeNoZero
import Derived.Laws.Externs
import Derived.Laws.CopyOwn
import Derived.Deep.RegionLaw
section
set_option linter.unusedVariables false
set_option linter.unusedSimpArgs false
namespace Go.Proofs.Ytfiamddinkokbaa
open Go.RowKit
def SeqCell {α : Type} (F : Fence) (n : Nat) (P : Program) (g : Nat) (lb : Array Value) (encs : α → Array Value) (B : Nat) (o : Obj) (S : List α → Prop) (N : Nat) : Prop :=
 ∀ (l : Nat) (J : List α → World → Prop) (W : World), W.heap[B]? = some o →
  (∀ s W v, J s W → J s (W.setCell ⟨B, 0, none⟩ v)) → (∀ s W, J s W → J s W.drew) →
  (∀ pre x W1, J pre W1 → pre.length < N → YieldAt F (n - 1) P l (encs x) W1 fun e W' => e = .returned (.bool true) ∧ J (pre ++ [x]) W' ∧ W'.heap[B]? = W1.heap[B]?) →
  J [] W →
  CallsIn F n P g (#[.func (.yield l) #[] #[]] ++ lb) W fun e W' => (∃ v, e = .returned v) ∧ ∃ xs, S xs ∧ J xs W'
variable {F : Fence} {n : Nat} {P : Program}
theorem wpIn_rangeFunc_cell {α : Type} {g : Operand} {ps : Array Tmp} {assign body : Code} {Q : Exit → Act → World → Prop} {a : Act} {w : World}
  (hro : F.round = none) (h1 : 1 ≤ n) {gf : Nat} {lb : Array Value} (hg : a.eval g = .func (.func gf) #[] lb) (hFg : F.fn gf) (eg : ∀ args w, (callFunc gf args).run P w = .ok (.enter gf args) w)
  {encs : α → Array Value} {B : Nat} {o : Obj} {S : List α → Prop} {N : Nat} (hseq : SeqCell F (n - 1) P gf lb encs B o S N)
  (hBo : w.heap[B]? = some o) (hps : ∀ x, (encs x).size = ps.size)
  (I : List α → World → Prop) (hI : OwnFrom w.heap.size I) (hIB : ∀ s W v, I s W → I s (W.setCell ⟨B, 0, none⟩ v)) (hId : ∀ s W, I s W → I s W.drew) (h0 : I [] w) (a₁ : α → Act)
  (hassign : ∀ (l : Nat) (x : α) (W : World) (K : Act → World → Prop), K (a₁ x) W →
   assign.wpIn (F.inRound l) (n - 1 - 1) P (Exit.then K (fun _ _ _ => False)) { tmps := (ps.zip (encs x)).foldl (fun t (p, v) => t.setIfInBounds p v) a.tmps, defers := [] } W)
  (hbody : ∀ (l : Nat) (pre : List α) (x : α) (W : World), I pre W → pre.length < N → body.wpIn (F.inRound l) (n - 1 - 1) P
   (fun e _ W' => e = .normal ∧ KeepsFrom w.heap.size W W' ∧ W'.heap[B]? = W.heap[B]? ∧ I (pre ++ [x]) W') (a₁ x) W)
  (hdone : ∀ (D : Nat) (xs : List α) (W : World), w.heap.size ≤ D → S xs → I xs W → W.heap[D]? = some (.deferred (some [])) → Q .normal { a with defers := { target := .collected D, args := #[] } :: a.defers } W) :
  (Code.rangeFunc g ps assign body).wpIn F n P Q a w := by
 have hBlt : B < w.heap.size := (Array.getElem?_eq_some_iff.1 hBo).1
 refine wpIn_rangeFunc ?_
 intro fn hfn
 rw [hro]
 obtain ⟨rec, hrec⟩ : ∃ rec : LoopState → Option Code → Loop, rec = fun st pe => { state := st, pending := pe, fn, tmps := a.tmps, params := ps, assign, body, defers := w.heap.size } := ⟨_, rfl⟩
 obtain ⟨W1, hW1⟩ : ∃ W1, (w.alloc (.deferred (some []))).alloc (.loop (rec .ready none)) = W1 := ⟨_, rfl⟩
 have hL1 : W1.heap[w.heap.size + 1]? = some (.loop (rec .ready none)) := by
  rw [← hW1]; have := World.alloc_heap_new (w.alloc (.deferred (some []))) (.loop (rec .ready none)); rwa [World.size_alloc] at this
 have hK1 : W1.heap[w.heap.size]? = some (.deferred (some [])) := by
  rw [← hW1]; exact (Below.heap_alloc _ _ _ (by simp)).trans (World.alloc_heap_new w _)
 have hB1 : W1.heap[B]? = some o := by
  rw [← hW1, Below.heap_alloc _ _ _ (by simp; omega), Below.heap_alloc _ _ _ (by omega)]; exact hBo
 have hI1 : I [] W1 := by rw [← hW1]; exact hI.alloc _ (hI.alloc _ h0)
 refine ⟨w.heap.size + 1, [{ target := .collected w.heap.size, args := #[] }], W1, { target := .fn (.func gf) lb, args := #[.func (.yield (w.heap.size + 1)) #[] #[]] }, W1, gf,
  #[.func (.yield (w.heap.size + 1)) #[] #[]] ++ lb, W1, ?_, ?_, ?_, ?_, fun _ => h1, ?_⟩
 ·rw [← hW1, hrec]; exact run_enterLoop_outer _ _ _ _ _
 ·simp only [resolve, hg]
  simp [go_sem]
 ·intro f' hf'; simp [Target.leads] at hf'; subst hf'; exact hFg
 ·simp [invoke, go_sem, eg]
 ·refine (hseq (w.heap.size + 1)
   (fun pre W => I pre W ∧ W.heap[w.heap.size + 1]? = some (.loop (rec .ready none)) ∧ W.heap[w.heap.size]? = some (.deferred (some [])))
   W1 hB1
   (fun s A v hs => ⟨hIB s A v hs.1, (Below.heap_setCell _ _ _ _ (by simp; omega)).trans hs.2.1, (Below.heap_setCell _ _ _ _ (by simp; omega)).trans hs.2.2⟩)
   (fun s A hs => ⟨hId s A hs.1, hs.2.1, hs.2.2⟩)
   ?_ ⟨hI1, hL1, hK1⟩).mono ?_
  ·rintro pre x W ⟨hi, hl, hk⟩ hlen
   have hlt : w.heap.size + 1 < W.heap.size := (Array.getElem?_eq_some_iff.1 hl).1
   have hy := run_yield (P := P) (args := encs x) hl (by rw [hrec]; exact hps x)
   rw [hrec] at hy
   refine ⟨fn, _, assign, body, hy, roundIn_of_wpIn hfn (hassign _ x W _ ⟨_, run_beginRound hl (by rw [hrec]), ?_⟩)⟩
   have hl2 : (W.putObj (w.heap.size + 1) (.loop { rec .ready none with state := .busy })).heap[w.heap.size + 1]? = some (.loop { rec .ready none with state := .busy }) := World.putObj_heap_same hlt
   have hk2 : (W.putObj (w.heap.size + 1) (.loop { rec .ready none with state := .busy })).heap[w.heap.size]? = some (.deferred (some [])) := (World.putObj_heap_other (by omega)).trans hk
   have hb2 : (W.putObj (w.heap.size + 1) (.loop { rec .ready none with state := .busy })).heap[B]? = W.heap[B]? := World.putObj_heap_other (by omega)
   refine wpIn_mono (hbody _ pre x _ (hI.putObj _ hi (by omega) hl rfl) hlen) ?_
   rintro e a3 W3 ⟨rfl, hk3, hb3, hi3⟩
   have hl3 := hk3.same _ _ (by omega) hl2 rfl
   have hre := run_endRound (P := P) none hl3
   rw [hrec] at hre ⊢
   rw [hrec] at hl3 hl2 hk2 hk3
   refine ⟨_, _, hre, rfl, ⟨hI.putObj _ hi3 (by omega) hl3 rfl, World.putObj_heap_same (Array.getElem?_eq_some_iff.1 hl3).1, (World.putObj_heap_other (by omega)).trans (hk3.same _ _ (Nat.le_refl _) hk2 rfl)⟩, ?_⟩
   exact (World.putObj_heap_other (by omega)).trans (hb3.trans hb2)
  ·rintro e W2 ⟨⟨v, rfl⟩, xs, hS, hi, hl, hk⟩
   exact ⟨none, _, by have := run_endLoop (P := P) hl (by rw [hrec]; simp); rw [hrec] at this; exact this, hdone _ xs _ (Nat.le_refl _) hS (hI.putObj _ hi (by omega) hl rfl) ((World.putObj_heap_other (by omega)).trans hk)⟩
end Go.Proofs.Ytfiamddinkokbaa
end

section
set_option linter.unusedVariables false
set_option linter.unusedSimpArgs false
namespace Go.Proofs.Ytfiamddinkokbaa
open Go
def splitL : List UInt8 → List (List UInt8)
 | [] => []
 | c :: t => if c = 10 then [10] :: splitL t else match splitL t with
  | [] => [[c]]
  | l :: r => (c :: l) :: r
def takeLine : List UInt8 → List UInt8
 | [] => []
 | c :: t => if c = 10 then [10] else c :: takeLine t
def dropLine : List UInt8 → List UInt8
 | [] => []
 | c :: t => if c = 10 then t else dropLine t
theorem splitL_next : ∀ l : List UInt8, l ≠ [] → splitL l = takeLine l :: splitL (dropLine l)
 | [], h => absurd rfl h
 | c :: t, _ => by
  by_cases hc : c = 10
  ·simp [splitL, takeLine, dropLine, hc]
  ·simp only [splitL, takeLine, dropLine, hc, if_false]
   by_cases ht : t = []
   ·subst ht; simp [splitL, takeLine, dropLine]
   ·rw [splitL_next t ht]
theorem take_drop_line : ∀ l : List UInt8, takeLine l ++ dropLine l = l
 | [] => rfl
 | c :: t => by
  by_cases hc : c = 10
  ·simp [takeLine, dropLine, hc]
  ·simp [takeLine, dropLine, hc, take_drop_line t]
theorem line_of_some : ∀ (l : List UInt8) (o : Nat), Lib.indexByte l 10 = o → takeLine l = l.take (o + 1) ∧ dropLine l = l.drop (o + 1)
 | [], o, h => by
  have := (Lib.indexByte_some h).1
  simp at this
 | c :: t, o, h => by
  obtain ⟨h1, h2⟩ := Lib.indexByte_some h
  by_cases hc : c = 10
  ·have : o = 0 := by
    rcases Nat.eq_zero_or_pos o with h0 | h0
    ·exact h0
    ·exact absurd (by simp [hc]) (h2 0 h0)
   subst this
   simp [takeLine, dropLine, hc]
  ·cases o with
   | zero => simp at h1; exact absurd h1 hc
   | succ o =>
    have ih := line_of_some t o (by
     simp only [Lib.indexByte, beq_iff_eq, if_neg hc] at h
     split at h <;> omega)
    simp [takeLine, dropLine, hc, ih.1, ih.2]
theorem line_of_none : ∀ (l : List UInt8), Lib.indexByte l 10 = -1 → takeLine l = l ∧ dropLine l = []
 | [], _ => ⟨rfl, rfl⟩
 | c :: t, h => by
  have hn := Lib.indexByte_none h
  have hc : c ≠ 10 := fun e => hn 0 (by simp [e])
  have ih := line_of_none t (by
   have hg := Lib.indexByte_ge t 10
   rcases Int.lt_or_le (Lib.indexByte t 10) 0 with h0 | h0
   ·omega
   ·obtain ⟨o, ho⟩ := Int.eq_ofNat_of_zero_le h0
    exact absurd (Lib.indexByte_some ho).1 (by have := hn (o + 1); simpa using this))
  simp [takeLine, dropLine, hc, ih.1, ih.2]
def toB (l : List UInt8) : ByteArray := ⟨l.toArray⟩
def splitB (s : ByteArray) : List ByteArray := (splitL s.data.toList).map toB
theorem toB_data (s : ByteArray) : toB s.data.toList = s := by cases s; simp [toB]
@[simp] theorem toB_size (l : List UInt8) : (toB l).size = l.length := by simp [toB, ByteArray.size]
@[simp] theorem data_toB (l : List UInt8) : (toB l).data.toList = l := by simp [toB]
theorem splitL_length_le : ∀ l : List UInt8, (splitL l).length ≤ l.length
 | [] => by simp [splitL]
 | c :: t => by
  have ih := splitL_length_le t
  simp only [splitL]
  split
  ·simpa using ih
  ·split
   ·simp
   ·rename_i h; rw [h] at ih; simp at ih ⊢; omega
end Go.Proofs.Ytfiamddinkokbaa
end

section
set_option linter.unusedVariables false
set_option linter.unusedSimpArgs false
namespace Go.Proofs
open Go.Shelf
def Try.lays156_ren : Go.Shelf.Ren := ⟨fun | 156 => 81 | 165 => 121 | 166 => 87 | 169 => 89 | 240 => 123 | 241 => 145 | 276 => 149 | 277 => 161 | n => n, fun | 31 => 36 | 9 => 9 | 3 => 3 | 4 => 4 | 0 => 0 | 20 => 20 | 72 => 127 | 76 => 132 | 70 => 124 | 37 => 125 | 75 => 131 | 127 => 165 | 164 => 184 | 5 => 5 | 80 => 135 | n => n, fun | n => n⟩
theorem Try.lays156 : Go.Proofs.Lays.n156 Try.prog Try.lays156_ren := {
 mixed := by kernel_rfl
 f156 := Try.func81.trans (congrArg some (by kernel_rfl))
 f165 := Try.func121.trans (congrArg some (by kernel_rfl))
 f166 := Try.func87.trans (congrArg some (by kernel_rfl))
 f169 := Try.func89.trans (congrArg some (by kernel_rfl))
 f240 := Try.func123.trans (congrArg some (by kernel_rfl))
 f241 := Try.func145.trans (congrArg some (by kernel_rfl))
 f276 := Try.func149.trans (congrArg some (by kernel_rfl))
 f277 := Try.func161.trans (congrArg some (by kernel_rfl))
 t0 := Try.underlying0
 a0 := Try.isAgg0
 z0 := Try.sizeOf0
 v0 := Try.zeroValue0
 t3 := Try.underlying3
 a3 := Try.isAgg3
 z3 := Try.sizeOf3
 v3 := Try.zeroValue3
 t4 := Try.underlying4
 a4 := Try.isAgg4
 z4 := Try.sizeOf4
 v4 := Try.zeroValue4
 t9 := Try.underlying9
 a9 := Try.isAgg9
 z9 := Try.sizeOf9
 v9 := Try.zeroValue9
 t20 := Try.underlying20
 a20 := Try.isAgg20
 z20 := Try.sizeOf20
 v20 := Try.zeroValue20
 t31 := Try.underlying36
 a31 := Try.isAgg36
 z31 := Try.sizeOf36
 v31 := Try.zeroValue36
 t37 := Try.underlying125
 a37 := Try.isAgg125
 z37 := Try.sizeOf125
 v37 := Try.zeroValue125
 t70 := Try.underlying124
 a70 := Try.isAgg124
 z70 := Try.sizeOf124
 v70 := Try.zeroValue124
 t72 := Try.underlying127
 a72 := Try.isAgg127
 z72 := Try.sizeOf127
 v72 := Try.zeroValue127
 t75 := Try.underlying131
 a75 := Try.isAgg131
 z75 := Try.sizeOf131
 v75 := Try.zeroValue131
 t76 := Try.underlying132
 a76 := Try.isAgg132
 z76 := Try.sizeOf132
 v76 := Try.zeroValue132
 t127 := Try.underlying165
 a127 := Try.isAgg165
 z127 := Try.sizeOf165
 v127 := Try.zeroValue165
 t164 := Try.underlying184
 a164 := Try.isAgg184
 z164 := Try.sizeOf184
 v164 := Try.zeroValue184 }
theorem Try.Builder_Extra_156 : Builder.Extra Try.prog Try.lays156_ren := {
 sizeBuilder := by kernel_rfl
 liesBuilder := by kernel_rfl
 t5 := Try.underlying5
 a5 := Try.isAgg5
 z5 := Try.sizeOf5
 v5 := Try.zeroValue5
 infoByte := by kernel_rfl
 cellsByte := by kernel_rfl
 sizeByte := by kernel_rfl
 neB5 := by decide }
open Go.RowKit in
theorem Try.strings_Join_none (a : Option Addr) (c : Nat) (sep : ByteArray) (w : World) :
  Calls Try.prog 81 #[.slice a 0 c, .string sep] w fun e w' => e = .returned (.string ⟨#[]⟩) ∧ w' = w := Any.strings_Join_none Try.lays156 Try.Builder_Extra_156 a c sep w
open Go.RowKit in
theorem Try.strings_Join (bk o c : Nat) (xs : List ByteArray) (sep : ByteArray) (w : World) (hcells : ∀ (j : Nat) x, xs[j]? = some x → w.cell? ⟨bk, o + j, none⟩ = some (.string x)) (hbk : bk < w.heap.size) (hN : xs.length ≤ 140737488355328) (hcap : xs.length ≤ c) (hlen : (Lib.join (xs.map (·.data.toList)) sep.data.toList).length ≤ 140737488355328) :
  Calls Try.prog 81 #[.slice (some ⟨bk, o, none⟩) xs.length c, .string sep] w fun e w' => e = .returned (.string ⟨(Lib.join (xs.map (·.data.toList)) sep.data.toList).toArray⟩) ∧ Below w.heap.size w w' := Any.strings_Join Try.lays156 Try.Builder_Extra_156 bk o c xs sep w hcells hbk hN hcap hlen
def Try.lays137_ren : Go.Shelf.Ren := ⟨fun | 137 => 120 | 217 => 144 | 266 => 160 | n => n, fun | 9 => 9 | 5 => 5 | 3 => 3 | n => n, fun | n => n⟩
theorem Try.lays137 : Go.Proofs.Lays.n137 Try.prog Try.lays137_ren := {
 mixed := by kernel_rfl
 f137 := Try.func120.trans (congrArg some (by kernel_rfl))
 f217 := Try.func144.trans (congrArg some (by kernel_rfl))
 f266 := Try.func160.trans (congrArg some (by kernel_rfl))
 t3 := Try.underlying3
 a3 := Try.isAgg3
 z3 := Try.sizeOf3
 v3 := Try.zeroValue3
 t5 := Try.underlying5
 a5 := Try.isAgg5
 z5 := Try.sizeOf5
 v5 := Try.zeroValue5
 t9 := Try.underlying9
 a9 := Try.isAgg9
 z9 := Try.sizeOf9
 v9 := Try.zeroValue9 }
open Go.RowKit in
theorem Try.strings_IndexByte (s : ByteArray) (c : Int) (w : World) :
  Calls Try.prog 120 #[.string s, .int .u8 c] w fun e w' => e = .returned (.int .i64 (Lib.indexByte s.data.toList c.toNat.toUInt8)) ∧ w' = w := Any.strings_IndexByte Try.lays137 s c w
def Try.lays144_ren : Go.Shelf.Ren := ⟨fun | 144 => 84 | 143 => 82 | 219 => 122 | 217 => 144 | 225 => 146 | 224 => 147 | 267 => 148 | 266 => 160 | 314 => 162 | n => n, fun | 9 => 9 | 4 => 4 | 3 => 3 | 5 => 5 | 46 => 183 | 146 => 200 | 51 => 199 | n => n, fun | 1 => 0 | n => n⟩
theorem Try.lays144 : Go.Proofs.Lays.n144 Try.prog Try.lays144_ren := {
 mixed := by kernel_rfl
 f143 := Try.func82.trans (congrArg some (by kernel_rfl))
 f144 := Try.func84.trans (congrArg some (by kernel_rfl))
 f217 := Try.func144.trans (congrArg some (by kernel_rfl))
 f219 := Try.func122.trans (congrArg some (by kernel_rfl))
 f224 := Try.func147.trans (congrArg some (by kernel_rfl))
 f225 := Try.func146.trans (congrArg some (by kernel_rfl))
 f266 := Try.func160.trans (congrArg some (by kernel_rfl))
 f267 := Try.func148.trans (congrArg some (by kernel_rfl))
 f314 := Try.func162.trans (congrArg some (by kernel_rfl))
 t3 := Try.underlying3
 a3 := Try.isAgg3
 z3 := Try.sizeOf3
 v3 := Try.zeroValue3
 t4 := Try.underlying4
 a4 := Try.isAgg4
 z4 := Try.sizeOf4
 v4 := Try.zeroValue4
 t5 := Try.underlying5
 a5 := Try.isAgg5
 z5 := Try.sizeOf5
 v5 := Try.zeroValue5
 t9 := Try.underlying9
 a9 := Try.isAgg9
 z9 := Try.sizeOf9
 v9 := Try.zeroValue9
 t46 := Try.underlying183
 a46 := Try.isAgg183
 z46 := Try.sizeOf183
 v46 := Try.zeroValue183
 t51 := Try.underlying199
 a51 := Try.isAgg199
 z51 := Try.sizeOf199
 v51 := Try.zeroValue199
 t146 := Try.underlying200
 a146 := Try.isAgg200
 z146 := Try.sizeOf200
 v146 := Try.zeroValue200
 g1 := by kernel_rfl }
open Go.RowKit Go.Lib in
theorem Try.strings_Contains_one (s : ByteArray) (c : UInt8) (w : World) :
  Calls Try.prog 84 #[.string s, .string ⟨#[c]⟩] w fun e w' => e = .returned (.bool (decide (0 ≤ Lib.indexByte s.data.toList c))) ∧ w' = w := Any.strings_Contains_one Try.lays144 s c w
open Go.RowKit Go.Lib in
theorem Try.strings_Contains (s sub : ByteArray) (m : Int) (w : World) (hs : s.size < 4294967281) (hm : w.cell? ⟨0, 0, none⟩ = some (.int .i64 m)) :
  Calls Try.prog 84 #[.string s, .string sub] w fun e w' => e = .returned (.bool (Lib.contains s.data.toList sub.data.toList)) ∧ w' = w := Any.strings_Contains Try.lays144 s sub m w hs hm
def Try.lays207_ren : Go.Shelf.Ren := ⟨fun | 207 => 142 | n => n, fun | 9 => 9 | 4 => 4 | 3 => 3 | n => n, fun | n => n⟩
theorem Try.lays207 : Go.Proofs.Lays.n207 Try.prog Try.lays207_ren := {
 mixed := by kernel_rfl
 f207 := Try.func142.trans (congrArg some (by kernel_rfl))
 t3 := Try.underlying3
 a3 := Try.isAgg3
 z3 := Try.sizeOf3
 v3 := Try.zeroValue3
 t4 := Try.underlying4
 a4 := Try.isAgg4
 z4 := Try.sizeOf4
 v4 := Try.zeroValue4
 t9 := Try.underlying9
 a9 := Try.isAgg9
 z9 := Try.sizeOf9
 v9 := Try.zeroValue9 }
open Go.RowKit Go.Lib in
theorem Try.stringslite_HasSuffix (s p : ByteArray) (w : World) (hs : s.size ≤ 9223372036854775807) :
  Calls Try.prog 142 #[.string s, .string p] w fun e w' => e = .returned (.bool (Lib.hasSuffix s.data.toList p.data.toList)) ∧ w' = w := Any.stringslite_HasSuffix Try.lays207 s p w hs
def Try.lays100_ren : Go.Shelf.Ren := ⟨fun | 100 => 115 | 207 => 142 | n => n, fun | 9 => 9 | 4 => 4 | 3 => 3 | n => n, fun | n => n⟩
theorem Try.lays100 : Go.Proofs.Lays.n100 Try.prog Try.lays100_ren := {
 mixed := by kernel_rfl
 f100 := Try.func115.trans (congrArg some (by kernel_rfl))
 f207 := Try.func142.trans (congrArg some (by kernel_rfl))
 t3 := Try.underlying3
 a3 := Try.isAgg3
 z3 := Try.sizeOf3
 v3 := Try.zeroValue3
 t4 := Try.underlying4
 a4 := Try.isAgg4
 z4 := Try.sizeOf4
 v4 := Try.zeroValue4
 t9 := Try.underlying9
 a9 := Try.isAgg9
 z9 := Try.sizeOf9
 v9 := Try.zeroValue9 }
open Go.RowKit Go.Lib in
theorem Try.strings_HasSuffix (s p : ByteArray) (w : World) (hs : s.size ≤ 9223372036854775807) :
  Calls Try.prog 115 #[.string s, .string p] w fun e w' => e = .returned (.bool (Lib.hasSuffix s.data.toList p.data.toList)) ∧ w' = w := Any.strings_HasSuffix Try.lays100 s p w hs
def Try.lays212_ren : Go.Shelf.Ren := ⟨fun | 212 => 151 | 263 => 163 | 264 => 164 | n => n, fun | 46 => 183 | 51 => 199 | 146 => 200 | 53 => 95 | 148 => 203 | n => n, fun | n => n⟩
theorem Try.lays212 : Go.Proofs.Lays.n212 Try.prog Try.lays212_ren := {
 mixed := by kernel_rfl
 f212 := Try.func151.trans (congrArg some (by kernel_rfl))
 f263 := Try.func163.trans (congrArg some (by kernel_rfl))
 f264 := Try.func164.trans (congrArg some (by kernel_rfl))
 t46 := Try.underlying183
 a46 := Try.isAgg183
 z46 := Try.sizeOf183
 v46 := Try.zeroValue183
 t51 := Try.underlying199
 a51 := Try.isAgg199
 z51 := Try.sizeOf199
 v51 := Try.zeroValue199
 t53 := Try.underlying95
 a53 := Try.isAgg95
 z53 := Try.sizeOf95
 v53 := Try.zeroValue95
 t146 := Try.underlying200
 a146 := Try.isAgg200
 z146 := Try.sizeOf200
 v146 := Try.zeroValue200
 t148 := Try.underlying203
 a148 := Try.isAgg203
 z148 := Try.sizeOf203
 v148 := Try.zeroValue203 }
open Go.RowKit Go.Lib in
theorem Try.bits_Mul (x y : Nat) (hx : x < 18446744073709551616) (hy : y < 18446744073709551616) (w : World) :
  Calls Try.prog 151 #[.int .u64 x, .int .u64 y] w fun e w' => e = .returned (.tuple #[.int .u64 ((x * y / 18446744073709551616 : Nat) : Int), .int .u64 ((x * y % 18446744073709551616 : Nat) : Int)]) ∧ w' = w := Any.bits_Mul Try.lays212 x y hx hy w
def Try.lays105_ren : Go.Shelf.Ren := ⟨fun | 105 => 129 | 212 => 151 | 99 => 152 | 165 => 121 | 166 => 87 | 170 => 153 | 169 => 89 | 263 => 163 | 264 => 164 | 206 => 154 | 240 => 123 | 241 => 145 | 276 => 149 | 277 => 161 | n => n, fun | 9 => 9 | 3 => 3 | 4 => 4 | 20 => 20 | 0 => 0 | 46 => 183 | 109 => 186 | 5 => 5 | 72 => 127 | 76 => 132 | 51 => 199 | 146 => 200 | 53 => 95 | 148 => 203 | 70 => 124 | 37 => 125 | 75 => 131 | 127 => 165 | 164 => 184 | 80 => 135 | n => n, fun | n => n⟩
theorem Try.lays105 : Go.Proofs.Lays.n105 Try.prog Try.lays105_ren := {
 mixed := by kernel_rfl
 f99 := Try.func152.trans (congrArg some (by kernel_rfl))
 f105 := Try.func129.trans (congrArg some (by kernel_rfl))
 f165 := Try.func121.trans (congrArg some (by kernel_rfl))
 f166 := Try.func87.trans (congrArg some (by kernel_rfl))
 f169 := Try.func89.trans (congrArg some (by kernel_rfl))
 f170 := Try.func153.trans (congrArg some (by kernel_rfl))
 f206 := Try.func154.trans (congrArg some (by kernel_rfl))
 f212 := Try.func151.trans (congrArg some (by kernel_rfl))
 f240 := Try.func123.trans (congrArg some (by kernel_rfl))
 f241 := Try.func145.trans (congrArg some (by kernel_rfl))
 f263 := Try.func163.trans (congrArg some (by kernel_rfl))
 f264 := Try.func164.trans (congrArg some (by kernel_rfl))
 f276 := Try.func149.trans (congrArg some (by kernel_rfl))
 f277 := Try.func161.trans (congrArg some (by kernel_rfl))
 t0 := Try.underlying0
 a0 := Try.isAgg0
 z0 := Try.sizeOf0
 v0 := Try.zeroValue0
 t3 := Try.underlying3
 a3 := Try.isAgg3
 z3 := Try.sizeOf3
 v3 := Try.zeroValue3
 t4 := Try.underlying4
 a4 := Try.isAgg4
 z4 := Try.sizeOf4
 v4 := Try.zeroValue4
 t5 := Try.underlying5
 a5 := Try.isAgg5
 z5 := Try.sizeOf5
 v5 := Try.zeroValue5
 t9 := Try.underlying9
 a9 := Try.isAgg9
 z9 := Try.sizeOf9
 v9 := Try.zeroValue9
 t20 := Try.underlying20
 a20 := Try.isAgg20
 z20 := Try.sizeOf20
 v20 := Try.zeroValue20
 t37 := Try.underlying125
 a37 := Try.isAgg125
 z37 := Try.sizeOf125
 v37 := Try.zeroValue125
 t46 := Try.underlying183
 a46 := Try.isAgg183
 z46 := Try.sizeOf183
 v46 := Try.zeroValue183
 t51 := Try.underlying199
 a51 := Try.isAgg199
 z51 := Try.sizeOf199
 v51 := Try.zeroValue199
 t53 := Try.underlying95
 a53 := Try.isAgg95
 z53 := Try.sizeOf95
 v53 := Try.zeroValue95
 t70 := Try.underlying124
 a70 := Try.isAgg124
 z70 := Try.sizeOf124
 v70 := Try.zeroValue124
 t72 := Try.underlying127
 a72 := Try.isAgg127
 z72 := Try.sizeOf127
 v72 := Try.zeroValue127
 t75 := Try.underlying131
 a75 := Try.isAgg131
 z75 := Try.sizeOf131
 v75 := Try.zeroValue131
 t76 := Try.underlying132
 a76 := Try.isAgg132
 z76 := Try.sizeOf132
 v76 := Try.zeroValue132
 t109 := Try.underlying186
 a109 := Try.isAgg186
 z109 := Try.sizeOf186
 v109 := Try.zeroValue186
 t127 := Try.underlying165
 a127 := Try.isAgg165
 z127 := Try.sizeOf165
 v127 := Try.zeroValue165
 t146 := Try.underlying200
 a146 := Try.isAgg200
 z146 := Try.sizeOf200
 v146 := Try.zeroValue200
 t148 := Try.underlying203
 a148 := Try.isAgg203
 z148 := Try.sizeOf203
 v148 := Try.zeroValue203
 t164 := Try.underlying184
 a164 := Try.isAgg184
 z164 := Try.sizeOf184
 v164 := Try.zeroValue184 }
theorem Try.Builder_Extra_105 : Builder.Extra Try.prog Try.lays105_ren := {
 sizeBuilder := by kernel_rfl
 liesBuilder := by kernel_rfl
 t5 := Try.underlying5
 a5 := Try.isAgg5
 z5 := Try.sizeOf5
 v5 := Try.zeroValue5
 infoByte := by kernel_rfl
 cellsByte := by kernel_rfl
 sizeByte := by kernel_rfl
 neB5 := by decide }
open Go.RowKit Go.Lib in
theorem Try.strings_Repeat (s : ByteArray) (c : Nat) (w : World) (hc : c ≤ 9223372036854775807) (hlen : s.size * c ≤ 140737488355328) :
  Calls Try.prog 129 #[.string s, .int .i64 c] w fun e w' => e = .returned (.string ⟨(Lib.repeatL s.data.toList c).toArray⟩) ∧ Below w.heap.size w w' := Any.strings_Repeat Try.lays105 Try.Builder_Extra_105 s c w hc hlen
def Try.laysNm216_ren : Go.Shelf.Ren := ⟨fun | 16 => 108 | n => n, fun | 24 => 36 | 9 => 9 | 4 => 4 | n => n, fun | n => n⟩
theorem Try.laysNm216 : Go.Proofs.Lays2.n16 Try.prog Try.laysNm216_ren := {
 mixed := by kernel_rfl
 f16 := Try.func108.trans (congrArg some (by kernel_rfl))
 t4 := Try.underlying4
 a4 := Try.isAgg4
 z4 := Try.sizeOf4
 v4 := Try.zeroValue4
 t9 := Try.underlying9
 a9 := Try.isAgg9
 z9 := Try.sizeOf9
 v9 := Try.zeroValue9
 t24 := Try.underlying36
 a24 := Try.isAgg36
 z24 := Try.sizeOf36
 v24 := Try.zeroValue36
 i9 := by kernel_rfl }
open Go.RowKit Go.Lib in
theorem Try.slices_Clone_string (b off n c : Nat) (zs : List ByteArray) (w : World) (hz : n ≤ zs.length) (hbig : n * 16 ≤ 140737488355328) (hc : ∀ j, j < zs.length → w.cell? ⟨b, off + j, none⟩ = some (.string (zs.getD j ByteArray.empty))) :
  Calls Try.prog 108 #[.slice (some ⟨b, off, none⟩) n c] w fun e w' => ∃ v', e = .returned v' ∧ w'.ownsRow w.heap.size 9 1 v' n ((zs.take n).map (Value.string)) ∧ v' ≠ .slice none 0 0 ∧ Below w.heap.size w w' := Any.slices_Clone_string Try.laysNm216 b off n c zs w hz hbig hc
open Go.RowKit Go.Lib in
theorem Try.slices_Clone_string_nil (n c : Nat) (w : World) :
  Calls Try.prog 108 #[.slice none n c] w fun e w' => e = .returned (.slice none 0 0) ∧ w' = w := Any.slices_Clone_string_nil Try.laysNm216 n c w
open Go.RowKit Go.Lib in
theorem Try.slices_Clone_string_zero (a : Addr) (c : Nat) (w : World) :
  Calls Try.prog 108 #[.slice (some a) 0 c] w fun e w' => ∃ v', e = .returned v' ∧ w'.ownsRow w.heap.size 9 1 v' 0 [] ∧ v' ≠ .slice none 0 0 ∧ Below w.heap.size w w' := Any.slices_Clone_string_zero Try.laysNm216 a c w
end Go.Proofs
end

section
set_option linter.unusedVariables false
set_option linter.unusedSimpArgs false
namespace Go.Proofs.Ytfiamddinkokbaa
open Go.RowKit Go.Shelf Go.Proofs.YtfiamddinkokbaaW.PrintWords
attribute [local go_sem] Oper.semAt_some
def leftIn (B : Nat) (W : World) : Nat := match W.cell? ⟨B, 0, none⟩ with | some (.string s) => s.size | _ => 0
theorem leftIn_eq {B : Nat} {W : World} {s : ByteArray} (h : W.cell? ⟨B, 0, none⟩ = some (.string s)) : leftIn B W = s.size := by simp [leftIn, h]
theorem own_lower {w : World} {base base' : Nat} {e : TypeId} {size n : Nat} {v : Value} {xs : List Value} (hb : base' ≤ base) (h : w.ownsRow base e size v n xs) : w.ownsRow base' e size v n xs := by
 obtain ⟨h1, h2⟩ := h
 refine ⟨h1, ?_⟩
 rcases h2 with h2 | ⟨g, cap, cur, hv, hg, r⟩
 ·exact Or.inl h2
 ·exact Or.inr ⟨g, cap, cur, hv, Nat.le_trans hb hg, r⟩
theorem dropLine_lt : ∀ l : List UInt8, l ≠ [] → (dropLine l).length < l.length
 | [], h => absurd rfl h
 | c :: t, _ => by
  by_cases hc : c = 10
  ·simp [dropLine, hc]
  ·by_cases ht : t = []
   ·subst ht; simp [dropLine, hc]
   ·have := dropLine_lt t ht
    simp [dropLine, hc]; omega
set_option maxRecDepth 100000 in
set_option maxHeartbeats 1000000 in
theorem lines1_in (n : Nat) (hn : 1 ≤ n) (l B : Nat) (s0 : ByteArray) (hsz : s0.size ≤ 4000000000) (J : List ByteArray → World → Prop)
  (hset : ∀ s W v, J s W → J s (W.setCell ⟨B, 0, none⟩ v)) (hdr : ∀ s W, J s W → J s W.drew)
  (hY : ∀ pre x W1, J pre W1 → pre.length < (splitB s0).length → YieldAt Fence.wide (n - 1) Try.prog l #[.string x] W1 fun e W' => e = .returned (.bool true) ∧ J (pre ++ [x]) W' ∧ W'.heap[B]? = W1.heap[B]?)
  (W : World) (hB : Boxed W B 9 (.string s0)) (h0 : J [] W) :
  CallsIn Fence.wide n Try.prog 119 #[.func (.yield l) #[] #[], .pointer (some ⟨B, 0, none⟩)] W fun e W' => (∃ v, e = .returned v) ∧ ∃ xs, xs = splitB s0 ∧ J xs W' := by
 refine callsIn_of_wp Try.func119 rfl trivial ?_ rfl
 simp only [Try.ntmps119, List.size_toArray, List.length_cons, List.length_nil, Nat.reduceAdd, Nat.reduceSub, Array.replicate_succ, Array.replicate_zero, List.push_toArray, List.append_toArray, List.nil_append, List.cons_append]
 gi_wp2
 gi_loopw [3, 4] (fun _ _ wr => ∃ (pre : List ByteArray) (s : ByteArray), Boxed wr B 9 (.string s) ∧ s.size ≤ s0.size ∧ splitB s0 = pre ++ splitB s ∧ J pre wr)
  (fun _ _ wr => leftIn B wr)
 case atStart => exact ⟨[], s0, hB, Nat.le_refl _, rfl, h0⟩
 case round =>
  obtain ⟨pre, s, hb, hle, hx, hJ⟩ := hrel
  have hsz' : s.size ≤ 4000000000 := by omega
  have hc := hb.cell
  have hf := hb.frozen
  by_cases hs : s.size = 0
  ·have hs0 : decide ((0 : Int) < (s.size : Int)) = false := by simp [hs]
   have hnil : splitB s = [] := by
    have : s.data.toList = [] := List.eq_nil_of_length_eq_zero (by rw [Array.length_toList]; exact hs)
    simp [splitB, this, splitL]
   have HE := Lib.hid (show ∃ xs, xs = splitB s0 ∧ J xs wr from ⟨pre, by rw [hx, hnil, List.append_nil], hJ⟩)
   clear hx hnil
   gi_wp2
   go_end0
   exact ⟨⟨_, rfl⟩, HE.out⟩
  ·have hs0 : decide ((0 : Int) < (s.size : Int)) = true := by simp; omega
   have hne : s.data.toList ≠ [] := by
    intro h; apply hs; have := congrArg List.length h; rw [Array.length_toList] at this; exact this
   have hnx : splitB s = toB (takeLine s.data.toList) :: splitB (toB (dropLine s.data.toList)) := by
    unfold splitB; rw [splitL_next _ hne]; simp
   have HD : Hid ((dropLine s.data.toList).length < s.size) := by
    have := dropLine_lt _ hne; rw [Array.length_toList] at this; exact this
   have HX := Lib.hid hx
   have HN := Lib.hid hnx
   clear hx hnx
   have hcall := Try.strings_IndexByte s 10 wr
   rw [show (10 : Int).toNat.toUInt8 = 10 from rfl] at hcall
   by_cases hi : 0 ≤ Lib.indexByte s.data.toList 10
   ·obtain ⟨i, hi'⟩ := Int.eq_ofNat_of_zero_le hi
    rw [hi'] at hcall
    have hlt : i < s.size := by
     have := (Lib.indexByte_some hi').1
     have := (List.getElem?_eq_some_iff.1 this).1
     rw [Array.length_toList] at this; exact this
    have hl := line_of_some _ i hi'
    have HL := Lib.hid hl
    clear hl hi hi'
    have HCALL := Lib.hid hcall
    clear hcall
    gi_wp2_with (refine ⟨trivial, ?_⟩; gi_at_call 120; refine (callsIn_wide.2 HCALL.out).mono ?_; rintro e w' ⟨rfl, rfl⟩)
    gi_region
    have hb1 : Boxed (w'.setCell ⟨B, 0, none⟩ (.string (s.extract (i + 1) s.size))).drew B 9 (.string (s.extract (i + 1) s.size)) := hb.set _
    have e1 : s.extract 0 (i + 1) = toB (takeLine s.data.toList) := by
     rw [HL.out.1, ← toB_data (s.extract 0 (i + 1)), Lib.extract_data]; simp
    have e2 : s.extract (i + 1) s.size = toB (dropLine s.data.toList) := by
     rw [HL.out.2, ← toB_data (s.extract (i + 1) s.size), Lib.extract_data, List.take_of_length_le (by rw [List.length_drop, Array.length_toList]; exact Nat.le_refl _)]
    have hJ1 : J pre (w'.setCell ⟨B, 0, none⟩ (.string (s.extract (i + 1) s.size))).drew := hdr _ _ (hset _ _ _ hJ)
    have hlen : pre.length < (splitB s0).length := by rw [HX.out, HN.out]; simp
    obtain ⟨fn, tmps, assign, body, hy, hR⟩ := hY pre (s.extract 0 (i + 1)) _ hJ1 hlen
    have E1 := Lib.hid e1
    have E2 := Lib.hid e2
    clear e1 e2 hlen
    gi_wp2
    refine hR.mono ?_
    rintro e W3 ⟨rfl, hJ3, hk3⟩
    have hb3 : Boxed W3 B 9 (.string (s.extract (i + 1) s.size)) := hk3.trans hb1
    gi_wp2
    go_roundw
    case rel =>
     refine ⟨pre ++ [s.extract 0 (i + 1)], s.extract (i + 1) s.size, hb3, ?_, ?_, hJ3⟩
     ·rw [E2.out, toB_size]; have := HD.out; omega
     ·rw [HX.out, HN.out, E1.out, E2.out]; simp
    case measure =>
     rw [leftIn_eq hb3.cell, leftIn_eq hc, E2.out, toB_size]; exact HD.out
   ·have hi0 : Lib.indexByte s.data.toList 10 = -1 := by have := Lib.indexByte_ge s.data.toList 10; omega
    rw [hi0] at hcall
    have hl := line_of_none _ hi0
    have HL := Lib.hid hl
    clear hl hi hi0
    have HCALL := Lib.hid hcall
    clear hcall
    have hb1 : Boxed (wr.setCell ⟨B, 0, none⟩ (.string ⟨#[]⟩)) B 9 (.string ⟨#[]⟩) := hb.set _
    have hJ1 : J pre (wr.setCell ⟨B, 0, none⟩ (.string ⟨#[]⟩)) := hset _ _ _ hJ
    have hlen : pre.length < (splitB s0).length := by rw [HX.out, HN.out]; simp
    obtain ⟨fn, tmps, assign, body, hy, hR⟩ := hY pre s _ hJ1 hlen
    clear hlen
    gi_wp2_with (refine ⟨trivial, ?_⟩; gi_at_call 120; refine (callsIn_wide.2 HCALL.out).mono ?_; rintro e w' ⟨rfl, rfl⟩)
    refine hR.mono ?_
    rintro e W3 ⟨rfl, hJ3, hk3⟩
    have hb3 : Boxed W3 B 9 (.string ⟨#[]⟩) := hk3.trans hb1
    gi_wp2
    go_roundw
    case rel =>
     refine ⟨pre ++ [s], ⟨#[]⟩, hb3, Nat.zero_le _, ?_, hJ3⟩
     rw [HX.out, HN.out, HL.out.1, HL.out.2, toB_data]; simp [splitB, splitL, toB]
    case measure =>
     rw [leftIn_eq hb3.cell, leftIn_eq hc]
     show 0 < s.size
     omega
theorem lines_seq (n : Nat) (hn : 1 ≤ n) (B : Nat) (s0 : ByteArray) (hsz : s0.size ≤ 4000000000) :
  SeqCell Fence.wide n Try.prog 119 #[.pointer (some ⟨B, 0, none⟩)] (fun x : ByteArray => #[Value.string x]) B (.cells #[.string s0] 9 (0, 0)) (fun xs => xs = splitB s0) (splitB s0).length :=
 fun l J W hB hset hdr hY h0 => lines1_in n hn l B s0 hsz J hset hdr hY W hB h0
set_option maxHeartbeats 1000000 in
theorem lines_in (n : Nat) (s : ByteArray) (w : World) :
  CallsIn Fence.wide n Try.prog 80 #[.string s] w fun e w' => e = .returned (.func (.func 119) #[] #[.pointer (some ⟨w.heap.size, 0, none⟩)]) ∧ w' = w.alloc (.cells #[.string s] 9) := by
 refine callsIn_of_wp Try.func80 rfl trivial ?_ rfl
 simp only [Try.ntmps80, List.size_toArray, List.length_cons, List.length_nil, Nat.reduceAdd, Nat.reduceSub, Array.replicate_succ, Array.replicate_zero, List.push_toArray, List.append_toArray, List.nil_append, List.cons_append]
 gi_wp2
 go_ret
 exact ⟨rfl, rfl⟩
theorem split_info : (Try.prog.info? 9).map (fun i => (i.zero, i.size, i.bytes)) = some (some (.string ⟨#[]⟩), 1, 16) := by kernel_rfl
set_option maxRecDepth 100000 in
set_option maxHeartbeats 2000000 in
theorem appendSeq_in (n : Nat) (hn : 3 ≤ n) (s : ByteArray) (hsz : s.size ≤ 4000000000) (n₀ B : Nat) (w0 w : World) (h0B : n₀ ≤ B) (hw0 : n₀ ≤ w0.heap.size) (hbel : Below n₀ w0 w) (hB : Boxed w B 9 (.string s)) :
  CallsIn Fence.wide n Try.prog 118 #[.slice none 0 0, .func (.func 119) #[] #[.pointer (some ⟨B, 0, none⟩)]] w fun e W' => ∃ v, e = .returned v ∧ W'.ownsRow n₀ 9 1 v (splitB s).length ((splitB s).map Value.string) ∧ Below n₀ w0 W' := by
 have h1 : 1 ≤ n := by omega
 obtain ⟨i0, hi, hz0, hz1, hz2⟩ := info_parts split_info
 refine callsIn_of_wp_marks Try.func118 rfl trivial ?_ rfl
 simp only [Try.ntmps118, List.size_toArray, List.length_cons, List.length_nil, Nat.reduceAdd, Nat.reduceSub, Array.replicate_succ, Array.replicate_zero, List.push_toArray, List.append_toArray, List.nil_append, List.cons_append]
 have hBlt := hB.lt
 have bO := Boxed.new w 36 (.slice none 0 0)
 have hB1 : Boxed (w.alloc (.cells #[.slice none 0 0] 36)) B 9 (.string s) := hB.alloc _
 have hbel1 : Below n₀ w0 (w.alloc (.cells #[.slice none 0 0] 36)) := hbel.alloc (Nat.le_trans hw0 hbel.size) _
 have hlen := splitL_length_le s.data.toList
 have hlen2 : (splitB s).length ≤ 4000000000 := by
  unfold splitB; rw [List.length_map]; rw [Array.length_toList] at hlen; exact Nat.le_trans hlen hsz
 gi_wp2
 refine wpIn_rangeFunc_cell rfl h1 (gf := 119) (lb := #[.pointer (some ⟨B, 0, none⟩)]) rfl trivial (enters_of Try.func119 (by kernel_rfl) rfl)
  (lines_seq (n - 1) (by omega) B s hsz) hB1 (fun _ => rfl)
  (fun pre W => (∃ v, Boxed W w.heap.size 36 v ∧ W.ownsRow w.heap.size 9 1 v pre.length (pre.map Value.string) ∧ True) ∧ Below n₀ w0 W ∧ w.heap.size ≤ W.heap.size)
  ?own ?setB ?drew ⟨⟨_, bO, World.ownsRow_nil _ _ _ _, trivial⟩, hbel1, by simp⟩
  (fun x => { tmps := #[.slice none 0 0, .func (.func 119) #[] #[.pointer (some ⟨B, 0, none⟩)], .pointer (some ⟨w.heap.size, 0, none⟩), undef, .slice none 0 0, .string x, .func (.func 119) #[] #[.pointer (some ⟨B, 0, none⟩)], .string x, undef, undef, undef, undef, undef], defers := [] }) ?assign ?body ?done
 case own => exact OwnFrom.and (Own.from (holdsRow_own w.heap.size w.heap.size 36 9 1 (fun pre : List ByteArray => pre.length) (fun pre => pre.map Value.string) (fun _ _ => True)) _) (OwnFrom.and (ownFrom_below hw0 (by have := hbel.size; simp; omega)) (fun _ _ _ _ hs hg _ => Nat.le_trans hs hg.size))
 case setB =>
  rintro pre W v ⟨⟨u, hu, hr, _⟩, hb, hz⟩
  refine ⟨⟨u, hu.kept (grownBy_setCell' W B v) (by simp; omega), ownsRow_setCell_below hr hBlt v, trivial⟩, hb.setCell (p := ⟨B, 0, none⟩) h0B v, ?_⟩
  simpa [World.setCell] using hz
 case drew =>
  rintro pre W ⟨⟨u, hu, hr, _⟩, hb, hz⟩
  exact ⟨⟨u, hu, hr, trivial⟩, hb.drew, hz⟩
 case assign =>
  intro l x W K hK
  gi_wp2
  exact hK
 case body =>
  rintro l pre x W ⟨⟨v, hv, hrow, _⟩, hb, hz⟩ hlt
  have hc := hv.cell
  gi_wp2_with (gi_at_builtin; refine wpListIn_append_own _ rfl _ _ 36 rfl w.heap.size 9 i0 (.string ⟨#[]⟩) 1 16 Try.underlying36 hi hz0 hz1 hz2 rfl (by decide) _ _ _ rfl (hrow.alloc _) ⟨W.heap.size, 0, none⟩ 1 1 [.string x] rfl rfl (cell_one_new _ _ _) (by simp [Value.oneCell']) (by unfold maxLen; omega) (by omega) (by simp; omega) ?_; intro v' w1 hown' hgrow _; obtain ⟨g', cap', rfl⟩ := ownsRow_succ hown'; obtain ⟨hv1, hv2, hr2, hk2, hb2⟩ := hv.appended (by decide) hrow hz (Nat.le_refl _) hown' hgrow; have hc1 := hv1.cell; have hf1 := hv1.frozen)
  exact ⟨hk2.from _, hb2.block B hBlt, ⟨_, hv2, hr2⟩, hb.trans (hb2.mono (Nat.le_trans h0B (Nat.le_of_lt hBlt))), by have := hb2.size; simp [World.setCell] at this; omega⟩
 case done =>
  rintro D ys W hD rfl ⟨⟨v, hv, hrow, _⟩, hb, hz⟩ hK
  have hc := hv.cell
  gi_wp2
  refine ⟨by simp, .inl ⟨_, _, rfl, run_takeDeferred hK, ?_⟩⟩
  have hrow' := ownsRow_putObj hrow (.deferred none) hK rfl
  exact ⟨_, results_tmp rfl _ _ _, v, rfl, own_lower (Nat.le_trans h0B (Nat.le_of_lt hBlt)) hrow', hb.grown (grownBy_putObj' W D _) (Nat.le_trans hw0 hb.size) (fun k e => by cases e; simp at hD; omega)⟩
set_option maxHeartbeats 1000000 in
theorem collect_in (n : Nat) (hn : 4 ≤ n) (s : ByteArray) (hsz : s.size ≤ 4000000000) (n₀ B : Nat) (w0 w : World) (h0B : n₀ ≤ B) (hw0 : n₀ ≤ w0.heap.size) (hbel : Below n₀ w0 w) (hB : Boxed w B 9 (.string s)) :
  CallsIn Fence.wide n Try.prog 79 #[.func (.func 119) #[] #[.pointer (some ⟨B, 0, none⟩)]] w fun e W' => ∃ v, e = .returned v ∧ W'.ownsRow n₀ 9 1 v (splitB s).length ((splitB s).map Value.string) ∧ Below n₀ w0 W' := by
 refine callsIn_of_wp Try.func79 rfl trivial ?_ rfl
 simp only [Try.ntmps79, List.size_toArray, List.length_cons, List.length_nil, Nat.reduceAdd, Nat.reduceSub, Array.replicate_succ, Array.replicate_zero, List.push_toArray, List.append_toArray, List.nil_append, List.cons_append]
 have h1 : 1 ≤ n := by omega
 have hA := appendSeq_in (n - 1) (by omega) s hsz n₀ B w0 w h0B hw0 hbel hB
 have HA := Lib.hid hA
 clear hA
 gi_wp2_with (refine ⟨trivial, ?_⟩; gi_at_call 118; refine HA.out.mono ?_; rintro e w' ⟨v, rfl, hr, hb⟩)
 go_ret
 exact ⟨v, rfl, hr, hb⟩
set_option maxHeartbeats 1000000 in
theorem split_calls (s : ByteArray) (hsz : s.size ≤ 4000000000) (w : World) :
  Calls Try.prog 29 #[.string s] w fun e w' => ∃ v, e = .returned v ∧ w'.ownsRow w.heap.size 9 1 v (splitB s).length ((splitB s).map Value.string) ∧ Below w.heap.size w w' := by
 refine (callsIn_wide (n := 9)).1 ?_
 refine callsIn_of_wp Try.func29 rfl trivial ?_ rfl
 simp only [Try.ntmps29, List.size_toArray, List.length_cons, List.length_nil, Nat.reduceAdd, Nat.reduceSub, Array.replicate_succ, Array.replicate_zero, List.push_toArray, List.append_toArray, List.nil_append, List.cons_append]
 have hC := collect_in 8 (by omega) s hsz w.heap.size w.heap.size w _ (Nat.le_refl _) (Nat.le_refl _) ((Below.refl _ _).alloc (Nat.le_refl _) _) (Boxed.new w 9 (.string s))
 have HC := Lib.hid hC
 clear hC
 gi_wp2_with (refine ⟨trivial, ?_⟩; first | (gi_at_call 80; refine (lines_in 8 s w).mono ?_; rintro e w' ⟨rfl, rfl⟩) | (gi_at_call 79; refine HC.out.mono ?_; rintro e w' ⟨v, rfl, hr, hb⟩))
 go_ret
 exact ⟨v, rfl, hr, hb⟩
#print axioms split_calls
end Go.Proofs.Ytfiamddinkokbaa
end

section
set_option linter.unusedVariables false
set_option linter.unusedSimpArgs false
namespace Go.Proofs.Ytfiamddinkokbaa
open Go.RowKit Go.Shelf Go.Proofs.YtfiamddinkokbaaW.PrintWords
def cutL (c : UInt8) (l : List UInt8) : List UInt8 := l.dropWhile (· == c)
theorem cutL_eq (c : UInt8) (l : List UInt8) (k : Nat) (h : ∀ j, j < k → l[j]? = some c) (hk : ∀ x, l[k]? = some x → x ≠ c) : cutL c l = l.drop k := by
 induction k generalizing l with
 | zero =>
  cases l with
  | nil => rfl
  | cons a t => simp [cutL, hk a (by simp)]
 | succ k ih =>
  cases l with
  | nil => simp [cutL]
  | cons a t =>
   have h0 : a = c := by have := h 0 (by omega); simpa using this
   have := ih t (fun j hj => by have := h (j + 1) (by omega); simpa using this) (fun x hx => hk x (by simpa using hx))
   simp only [cutL] at this ⊢
   simp [h0, this]
theorem getElem?_byte (s : ByteArray) (k : Nat) (h : k < s.size) : s.data.toList[k]? = some s[k] := by
 rw [List.getElem?_eq_getElem (by rw [Array.length_toList]; exact h)]; rfl
theorem iterPos_of {w : World} {k p : Nat} {s : ByteArray} (h : w.heap[k]? = some (.stringIter s p)) : w.iterPos k = p := by simp [World.iterPos, h]
set_option maxRecDepth 100000 in
set_option maxHeartbeats 2000000 in
theorem cutLeft_calls (s : ByteArray) (hsz : s.size ≤ 4000000000) (c : UInt8) (hc : c.toNat < 128) (w : World) :
  Calls Try.prog 85 #[.string s, .string ⟨#[c]⟩] w fun e w' => e = .returned (.string (toB (cutL c s.data.toList))) ∧ Below w.heap.size w w' := by
 go_enter Try.func85, Try.ntmps85
 go_wp2
 go_loopw [5, 6, 7, 9] (fun _ _ _ _ wr => ∃ k : Nat, k ≤ s.size ∧ wr.heap[w.heap.size]? = some (.stringIter s k) ∧ Below w.heap.size w wr ∧ Hid (∀ j, j < k → s.data.toList[j]? = some c))
  (fun _ _ _ _ wr => s.size - wr.iterPos w.heap.size)
 case atStart => exact ⟨0, Nat.zero_le _, World.iter_heap _ _ _, (Below.refl _ _).alloc (Nat.le_refl _) _, fun j hj => by omega⟩
 case round =>
  obtain ⟨wo, rfl⟩ : ∃ wo : World, wo = wr := ⟨_, rfl⟩
  obtain ⟨k, hk, hit, hb, HC⟩ := hrel
  have HB := Lib.hid hb
  clear hb
  by_cases hlt : k < s.size
  ·by_cases heq : s[k] = c
   ·have hn := Lib.run_next_ascii_at (P := Try.prog) wo w.heap.size s k 0 hit hlt (by rw [heq]; exact hc)
    rw [heq] at hn
    have hit2 : (wo.iterAt w.heap.size s (k + 1)).heap[w.heap.size]? = some (.stringIter s (k + 1)) := Lib.iterAt_heap _ _ _ _ _ hit
    have HB2 : Hid (Below w.heap.size w (wo.iterAt w.heap.size s (k + 1))) := Lib.below_iterAt HB.out (Nat.le_refl _) _ _
    have hlt2 : w.heap.size < (wo.iterAt w.heap.size s (k + 1)).heap.size := (Array.getElem?_eq_some_iff.1 hit2).1
    have HM : Hid (wo.iterPos w.heap.size = k) := iterPos_of hit
    have H2 := Lib.hid (And.intro hit2 (And.intro HB2.out hlt2))
    clear hit2 HB2 hlt2 hit
    go_wp2
    obtain ⟨wm, hwm⟩ : ∃ wm : World, wm = wo.iterAt w.heap.size s (k + 1) := ⟨_, rfl⟩
    rw [← hwm] at H2 ⊢
    clear hwm hn
    go_loopw [7, 9] (fun v7 _ wr => ∃ p : Nat, p ≤ 1 ∧ wr.heap[wm.heap.size]? = some (.stringIter ⟨#[c]⟩ p) ∧ Hid (wr.heap[w.heap.size]? = some (.stringIter s (k + 1))) ∧ Hid (Below w.heap.size w wr) ∧ v7 = .bool (decide (p = 1)))
     (fun _ _ wr => 1 - wr.iterPos wm.heap.size)
    case atStart => exact ⟨0, by omega, World.iter_heap _ _ _, (Below.heap_alloc _ _ _ H2.out.2.2).trans H2.out.1, (H2.out.2.1.alloc (by have := H2.out.2.2; omega) _), by rfl⟩
    case round =>
     obtain ⟨p, hp, hit3, HI, HB3, rfl⟩ := hrel
     have hlt3 : wm.heap.size < wr.heap.size := (Array.getElem?_eq_some_iff.1 hit3).1
     by_cases hp0 : p = 0
     ·subst hp0
      have hn := Lib.run_next_ascii_at (P := Try.prog) wr wm.heap.size ⟨#[c]⟩ 0 0 hit3 (by show 0 < 1; omega) hc
      have hn2 : (Instr.next (.pointer (some ⟨wm.heap.size, 0, none⟩)) true 0).run Try.prog wr = .ok (.tuple #[.bool true, .int .i64 (0 : Nat), .int .i32 c.toNat]) (wr.iterAt wm.heap.size ⟨#[c]⟩ 1) := hn
      clear hn
      have hit4 := Lib.iterAt_heap wr wm.heap.size ⟨#[c]⟩ 0 1 hit3
      have HI4 : Hid ((wr.iterAt wm.heap.size ⟨#[c]⟩ 1).heap[w.heap.size]? = some (.stringIter s (k + 1))) := (Lib.iterAt_other _ _ _ _ _ (by have := H2.out.2.2; omega)).trans HI.out
      have HB4 : Hid (Below w.heap.size w (wr.iterAt wm.heap.size ⟨#[c]⟩ 1)) := Lib.below_iterAt HB3.out (by have := H2.out.2.2; omega) _ _
      have HP4 : Hid ((wr.iterAt wm.heap.size ⟨#[c]⟩ 1).iterPos wm.heap.size = 1) := iterPos_of hit4
      have HP3 : Hid (wr.iterPos wm.heap.size = 0) := iterPos_of hit3
      have HIT4 := Lib.hid hit4
      clear hit4 hit3
      go_wp2
      go_roundw
      case rel => exact ⟨1, by omega, HIT4.out, HI4, HB4, by simp⟩
      case measure => rw [HP4.out, HP3.out]; omega
     ·have hp1 : p = 1 := by omega
      subst hp1
      have hn := Lib.run_next_end_at (P := Try.prog) wr wm.heap.size ⟨#[c]⟩ 1 0 hit3 (by show ¬ 1 < 1; omega)
      clear hit3
      have HP5 : Hid (wr.iterPos w.heap.size = k + 1) := iterPos_of HI.out
      go_wp2
      go_roundw
      case rel =>
       refine ⟨k + 1, by omega, HI.out, HB3.out, fun j hj => ?_⟩
       by_cases hj2 : j < k
       ·exact HC.out j hj2
       ·have : j = k := by omega
        subst this
        rw [← heq]; exact getElem?_byte s j hlt
      case measure => rw [HP5.out, HM.out]; omega
   ·have hn0 := Lib.run_next_any_at (P := Try.prog) wo w.heap.size s k 0 hit hlt
    have hex : ∃ r wd : Nat, r ≠ c.toNat ∧ r ≤ 2147483647 ∧ 1 ≤ wd ∧ (Instr.next (.pointer (some ⟨w.heap.size, 0, none⟩)) true 0).run Try.prog wo = .ok (.tuple #[.bool true, .int .i64 k, .int .i32 r]) (wo.iterAt w.heap.size s (k + wd)) := by
     by_cases ha : (s[k]'hlt).toNat < 128
     ·have hd := decode_ascii s k hlt ha
      rw [hd] at hn0
      exact ⟨_, _, fun e => heq (UInt8.toNat_inj.1 e), by omega, Nat.le_refl _, hn0⟩
     ·have hd := decode_high s k hlt (by omega)
      exact ⟨_, _, by omega, decode_le s k, hd.2, hn0⟩
    clear hn0
    obtain ⟨r, wd, hr1, hr2, hr3, hn⟩ := hex
    have hrc : ((r : Int) == (c.toNat : Int)) = false := beq_eq_false_iff_ne.2 (by omega)
    have hit2 : (wo.iterAt w.heap.size s (k + wd)).heap[w.heap.size]? = some (.stringIter s (k + wd)) := Lib.iterAt_heap _ _ _ _ _ hit
    have HB2 : Hid (Below w.heap.size w (wo.iterAt w.heap.size s (k + wd))) := Lib.below_iterAt HB.out (Nat.le_refl _) _ _
    have hlt2 : w.heap.size < (wo.iterAt w.heap.size s (k + wd)).heap.size := (Array.getElem?_eq_some_iff.1 hit2).1
    have HM : Hid (wo.iterPos w.heap.size = k) := iterPos_of hit
    have H2 := Lib.hid (And.intro hit2 (And.intro HB2.out hlt2))
    clear hit2 HB2 hlt2 hit
    go_wp2
    obtain ⟨wm, hwm⟩ : ∃ wm : World, wm = wo.iterAt w.heap.size s (k + wd) := ⟨_, rfl⟩
    rw [← hwm] at H2 ⊢
    clear hwm hn
    go_loopw [7, 9] (fun v7 _ wr => ∃ p : Nat, p ≤ 1 ∧ wr.heap[wm.heap.size]? = some (.stringIter ⟨#[c]⟩ p) ∧ Hid (wr.heap[w.heap.size]? = some (.stringIter s (k + wd))) ∧ Hid (Below w.heap.size w wr) ∧ v7 = .bool false)
     (fun _ _ wr => 1 - wr.iterPos wm.heap.size)
    case atStart => exact ⟨0, by omega, World.iter_heap _ _ _, (Below.heap_alloc _ _ _ H2.out.2.2).trans H2.out.1, (H2.out.2.1.alloc (by have := H2.out.2.2; omega) _), by rfl⟩
    case round =>
     obtain ⟨p, hp, hit3, HI, HB3, rfl⟩ := hrel
     have hlt3 : wm.heap.size < wr.heap.size := (Array.getElem?_eq_some_iff.1 hit3).1
     by_cases hp0 : p = 0
     ·subst hp0
      have hn := Lib.run_next_ascii_at (P := Try.prog) wr wm.heap.size ⟨#[c]⟩ 0 0 hit3 (by show 0 < 1; omega) hc
      have hn2 : (Instr.next (.pointer (some ⟨wm.heap.size, 0, none⟩)) true 0).run Try.prog wr = .ok (.tuple #[.bool true, .int .i64 (0 : Nat), .int .i32 c.toNat]) (wr.iterAt wm.heap.size ⟨#[c]⟩ 1) := hn
      clear hn
      have hit4 := Lib.iterAt_heap wr wm.heap.size ⟨#[c]⟩ 0 1 hit3
      have HI4 : Hid ((wr.iterAt wm.heap.size ⟨#[c]⟩ 1).heap[w.heap.size]? = some (.stringIter s (k + wd))) := (Lib.iterAt_other _ _ _ _ _ (by have := H2.out.2.2; omega)).trans HI.out
      have HB4 : Hid (Below w.heap.size w (wr.iterAt wm.heap.size ⟨#[c]⟩ 1)) := Lib.below_iterAt HB3.out (by have := H2.out.2.2; omega) _ _
      have HP4 : Hid ((wr.iterAt wm.heap.size ⟨#[c]⟩ 1).iterPos wm.heap.size = 1) := iterPos_of hit4
      have HP3 : Hid (wr.iterPos wm.heap.size = 0) := iterPos_of hit3
      have HIT4 := Lib.hid hit4
      clear hit4 hit3
      go_wp2
      go_roundw
      case rel => exact ⟨1, by omega, HIT4.out, HI4, HB4, rfl⟩
      case measure => rw [HP4.out, HP3.out]; omega
     ·have hp1 : p = 1 := by omega
      subst hp1
      have hn := Lib.run_next_end_at (P := Try.prog) wr wm.heap.size ⟨#[c]⟩ 1 0 hit3 (by show ¬ 1 < 1; omega)
      clear hit3
      go_wp2
      go_ret
      refine ⟨?_, HB3.out⟩
      have hend : ∀ x, s.data.toList[k]? = some x → x ≠ c := fun x hx e => by
       rw [getElem?_byte s k hlt] at hx
       exact heq ((Option.some.inj hx).trans e)
      rw [cutL_eq c s.data.toList k HC.out hend, ← Lib.extract_to_end, toB_data]
      rfl
  ·have hk2 : k = s.size := by omega
   subst hk2
   have hn := Lib.run_next_end_at (P := Try.prog) wo w.heap.size s s.size 0 hit hlt
   clear hit
   go_wp2
   go_ret
   refine ⟨?_, HB.out⟩
   have hend : ∀ x, s.data.toList[s.size]? = some x → x ≠ c := fun x hx _ => by
    have := (List.getElem?_eq_some_iff.1 hx).1
    rw [Array.length_toList] at this
    exact absurd this (Nat.lt_irrefl _)
   rw [cutL_eq c s.data.toList s.size HC.out hend, List.drop_of_length_le (by rw [Array.length_toList]; exact Nat.le_refl _)]
   rfl
def isSign (c : UInt8) : Bool := c == 60 || c == 124 || c == 61 || c == 62
def runL (l : List UInt8) : Nat := match l with
 | [] => 0
 | c :: _ => if isSign c then l.length - (cutL c l).length else 0
theorem cutL_le (c : UInt8) (l : List UInt8) : (cutL c l).length ≤ l.length := by
 have := (List.dropWhile_sublist (l := l) (fun x => x == c)).length_le
 exact this
theorem runL_le (l : List UInt8) : runL l ≤ l.length := by
 unfold runL
 split
 ·simp
 ·split <;> omega
theorem sign_index (c : UInt8) : decide (0 ≤ Lib.indexByte [60, 124, 61, 62] c) = isSign c := by
 unfold isSign
 simp only [Lib.indexByte]
 by_cases h1 : c = 60
 ·subst h1; decide
 ·by_cases h2 : c = 124
  ·subst h2; decide
  ·by_cases h3 : c = 61
   ·subst h3; decide
   ·by_cases h4 : c = 62
    ·subst h4; decide
    ·simp [h1, h2, h3, h4, Ne.symm h1, Ne.symm h2, Ne.symm h3, Ne.symm h4]
set_option maxRecDepth 100000 in
set_option maxHeartbeats 2000000 in
theorem run_calls (s : ByteArray) (hsz : s.size ≤ 4000000000) (w : World) :
  Calls Try.prog 43 #[.string s] w fun e w' => e = .returned (.int .i64 (runL s.data.toList)) ∧ Below w.heap.size w w' := by
 by_cases h0 : s.size = 0
 ·have hs : s = ⟨#[]⟩ := by
   have : s.data.toList = [] := List.eq_nil_of_length_eq_zero (by rw [Array.length_toList]; exact h0)
   rw [← toB_data s, this]; rfl
  subst hs
  go_enter Try.func43, Try.ntmps43
  go_wp2
  go_ret
  exact ⟨rfl, Below.refl _ _⟩
 ·obtain ⟨c, t, hl⟩ : ∃ c t, s.data.toList = c :: t := by
   cases h : s.data.toList with
   | nil => exact absurd (by have := congrArg List.length h; rw [Array.length_toList] at this; exact this) h0
   | cons c t => exact ⟨c, t, rfl⟩
  have hex : s.extract 0 1 = ⟨#[c]⟩ := by
   rw [← toB_data (s.extract 0 1), Lib.extract_data, hl]; rfl
  have hne : (s.toList == ([] : List UInt8)) = false := by rw [Lib.toList_data, hl]; rfl
  have hne2 : s.toList.isEmpty = false := by rw [Lib.toList_data, hl]; rfl
  have HL := Lib.hid hl
  clear hl
  have hcon := Try.strings_Contains_one ⟨#[60, 124, 61, 62]⟩ c w
  rw [show (⟨#[60, 124, 61, 62]⟩ : ByteArray).data.toList = [60, 124, 61, 62] from rfl, sign_index] at hcon
  have hsz1 : (1 : Int) ≤ s.size := by omega
  by_cases hsg : isSign c = true
  ·rw [hsg] at hcon
   have hc : c.toNat < 128 := by
    simp only [isSign, Bool.or_eq_true, beq_iff_eq] at hsg
    rcases hsg with ((rfl | rfl) | rfl) | rfl <;> decide
   have HS := Lib.hid hsg
   have HCON := Lib.hid hcon
   have hcut := cutLeft_calls s hsz c hc w
   have HCUT := Lib.hid hcut
   clear hsg hcon hcut
   go_enter Try.func43, Try.ntmps43
   go_wp2_with (first | (go_at_call 84; refine HCON.out.mono ?_; rintro e w' ⟨rfl, rfl⟩) | (go_at_call 85; refine HCUT.out.mono ?_; rintro e w' ⟨rfl, hb⟩))
   go_ret
   refine ⟨?_, hb⟩
   have e : wrap64 ((s.size : Int) - (cutL c s.data.toList).length) = ((s.data.toList.length - (cutL c s.data.toList).length : Nat) : Int) := by
    have := cutL_le c s.data.toList
    have h2 : s.data.toList.length = s.size := by rw [Array.length_toList]; rfl
    unfold wrap64; omega
   have HE := HS.out
   unfold runL
   rw [e]
   simp only [HL.out, HE, if_true]
   rfl
  ·have hsg0 : isSign c = false := by simpa using hsg
   rw [hsg0] at hcon
   have HS := Lib.hid hsg0
   have HCON := Lib.hid hcon
   clear hsg hsg0 hcon
   go_enter Try.func43, Try.ntmps43
   go_wp2_with (first | (go_at_call 84; refine HCON.out.mono ?_; rintro e w' ⟨rfl, rfl⟩))
   go_ret
   refine ⟨?_, Below.refl _ _⟩
   have HE := HS.out
   unfold runL
   simp only [HL.out, HE]
   rfl
#print axioms run_calls
end Go.Proofs.Ytfiamddinkokbaa
end

section
set_option linter.unusedVariables false
set_option linter.unusedSimpArgs false
namespace Go.Proofs.Ytfiamddinkokbaa
open Go.RowKit Go.Shelf Go.Proofs.YtfiamddinkokbaaW.PrintWords
set_option linter.unusedVariables false
theorem ext_split (a0 : ByteArray) (r : List ByteArray) (w : World) (h : (if a0.size ≤ 4000000000 then some (splitB a0) else none) = some r) :
  Calls Try.prog 29 #[.string a0] w fun e w' => ∃ v0_ : Value, e = .returned (v0_) ∧ Kd.R Kd.string 9 w' w.heap.size (fun _ => True) v0_ r ∧ Below w.heap.size w w' := by
 by_cases hs : a0.size ≤ 4000000000
 ·rw [if_pos hs] at h
  obtain rfl := Option.some.inj h
  refine (split_calls a0 hs w).mono ?_
  rintro e w' ⟨v, rfl, hr, hb⟩
  exact ⟨v, rfl, Kd.R_of_own hr (fun _ _ => trivial), hb⟩
 ·rw [if_neg hs] at h; cases h
theorem ext_run (a0 : ByteArray) (r : Int) (w : World) (h : (if a0.size ≤ 4000000000 then some ((runL a0.data.toList : Nat) : Int) else none) = some r) :
  Calls Try.prog 43 #[.string a0] w fun e w' => e = .returned (.int .i64 r) ∧ Below w.heap.size w w' := by
 by_cases hs : a0.size ≤ 4000000000
 ·rw [if_pos hs] at h
  obtain rfl := Option.some.inj h
  exact run_calls a0 hs w
 ·rw [if_neg hs] at h; cases h
theorem one_byte (a : ByteArray) (h : a.size = 1) : a = ⟨#[a.data.toList.headD 0]⟩ := by
 have hl : a.data.toList.length = 1 := by rw [Array.length_toList]; exact h
 obtain ⟨c, hc⟩ : ∃ c, a.data.toList = [c] := List.length_eq_one_iff.1 hl
 rw [← toB_data a, hc]; rfl
theorem ext_contains (a0 a1 : ByteArray) (r : Bool) (w : World) (h : (if a1.size = 1 then some (decide (0 ≤ Lib.indexByte a0.data.toList (a1.data.toList.headD 0))) else none) = some r) :
  Calls Try.prog 84 #[.string a0, .string a1] w fun e w' => e = .returned (.bool r) ∧ Drawn0 w w' := by
 by_cases hs : a1.size = 1
 ·rw [if_pos hs] at h
  obtain rfl := Option.some.inj h
  have := Try.strings_Contains_one a0 (a1.data.toList.headD 0) w
  rw [← one_byte a1 hs] at this
  refine this.mono ?_
  rintro e w' ⟨rfl, rfl⟩
  exact ⟨rfl, Drawn0.refl _⟩
 ·rw [if_neg hs] at h; cases h
theorem C_string_cells {w : World} {A : Option Addr} {xs : List ByteArray} (h : Kd.C Kd.string w A xs.length xs) (hn : 0 < xs.length) :
  ∃ b o, A = some ⟨b, o, none⟩ ∧ b < w.heap.size ∧ ∀ j x, xs[j]? = some x → w.cell? ⟨b, o + j, none⟩ = some (.string x) := by
 obtain ⟨ad, rfl, hc⟩ := h.2.2 hn
 have h0 : ∀ j x, xs[j]? = some x → w.cell? (ad.add j) = some (.string x) := by
  intro j x hj
  obtain ⟨c, hl, hk, hcell⟩ := hc j x hj
  have hk' : c = [Value.string x] := hk
  have := hcell 0 (.string x) (by rw [hk']; rfl)
  simpa [show (Kd.string).sz = 1 from rfl] using this
 obtain ⟨x0, hx0⟩ : ∃ x, xs[0]? = some x := ⟨_, List.getElem?_eq_getElem hn⟩
 obtain ⟨b, o, sp⟩ := ad
 have hcell0 := h0 0 x0 hx0
 have hsp : sp = none := by
  cases sp with
  | none => rfl
  | some q =>
   exfalso
   simp [Addr.add, World.cell?] at hcell0
   split at hcell0 <;> simp_all
 subst hsp
 refine ⟨b, o, rfl, World.block_lt_of_cell? w _ hcell0, fun j x hj => ?_⟩
 have := h0 j x hj
 unfold Addr.add at this
 split at this
 ·rename_i hj0; subst hj0; exact this
 ·exact this
def joinB (l : List ByteArray) (sep : ByteArray) : ByteArray := toB (Lib.join (l.map (·.data.toList)) sep.data.toList)
theorem ext_join (A0 : Option Addr) (c0 : Nat) (l0 : List ByteArray) (a1 : ByteArray) (r : ByteArray) (w : World) (hr0 : Kd.C Kd.string w A0 l0.length l0) (hc0 : l0.length ≤ c0)
  (h : (if l0.length ≤ 140737488355328 ∧ (joinB l0 a1).size ≤ 140737488355328 then some (joinB l0 a1) else none) = some r) :
  Calls Try.prog 81 #[.slice A0 l0.length c0, .string a1] w fun e w' => e = .returned (.string r) ∧ Below w.heap.size w w' := by
 by_cases hs : l0.length ≤ 140737488355328 ∧ (joinB l0 a1).size ≤ 140737488355328
 ·rw [if_pos hs] at h
  obtain rfl := Option.some.inj h
  obtain ⟨h1, h2⟩ := hs
  rw [joinB, toB_size] at h2
  by_cases hn : l0.length = 0
  ·have hnil : l0 = [] := List.eq_nil_of_length_eq_zero hn
   subst hnil
   refine (Try.strings_Join_none A0 c0 a1 w).mono ?_
   rintro e w' ⟨rfl, rfl⟩
   exact ⟨rfl, Below.refl _ _⟩
  ·obtain ⟨b, o, rfl, hb, hcell⟩ := C_string_cells hr0 (by omega)
   refine (Try.strings_Join b o c0 l0 a1 w hcell hb h1 hc0 h2).mono ?_
   rintro e w' ⟨rfl, hb⟩
   exact ⟨rfl, hb⟩
 ·rw [if_neg hs] at h; cases h
theorem ext_clone (A0 : Option Addr) (c0 : Nat) (l0 : List ByteArray) (r : List ByteArray) (w : World) (hr0 : Kd.C Kd.string w A0 l0.length l0) (hc0 : l0.length ≤ c0)
  (h : (if l0.length ≤ 4000000000 then some l0 else none) = some r) :
  Calls Try.prog 108 #[.slice A0 l0.length c0] w fun e w' => ∃ v0_ : Value, e = .returned (v0_) ∧ Kd.R Kd.string 9 w' w.heap.size (fun _ => True) v0_ r ∧ Below w.heap.size w w' := by
 by_cases hs : l0.length ≤ 4000000000
 ·rw [if_pos hs] at h
  obtain rfl := Option.some.inj h
  by_cases hn : l0.length = 0
  ·have hnil : l0 = [] := List.eq_nil_of_length_eq_zero hn
   subst hnil
   cases A0 with
   | none =>
    refine (Try.slices_Clone_string_nil 0 c0 w).mono ?_
    rintro e w' ⟨rfl, rfl⟩
    exact ⟨_, rfl, Kd.R_nil _ _ _ _ _, Below.refl _ _⟩
   | some a =>
    refine (Try.slices_Clone_string_zero a c0 w).mono ?_
    rintro e w' ⟨v, rfl, hr, _, hb⟩
    exact ⟨_, rfl, Kd.R_of_own hr (fun _ _ => trivial), hb⟩
  ·obtain ⟨b, o, rfl, hb, hcell⟩ := C_string_cells hr0 (by omega)
   refine (Try.slices_Clone_string b o l0.length c0 l0 w (Nat.le_refl _) (by omega) (fun j hj => ?_)).mono ?_
   ·rw [List.getD_eq_getElem?_getD, List.getElem?_eq_getElem hj]
    exact hcell j _ (List.getElem?_eq_getElem hj)
   ·rintro e w' ⟨v, rfl, hr, _, hb⟩
    rw [List.take_length] at hr
    exact ⟨_, rfl, Kd.R_of_own hr (fun _ _ => trivial), hb⟩
 ·rw [if_neg hs] at h; cases h
end Go.Proofs.Ytfiamddinkokbaa
end

section
set_option linter.unusedVariables false
set_option linter.unusedSimpArgs false
namespace Go.Proofs.Ytfiamddinkokbaa
open Go.RowKit Go.Shelf Go.Maps Go.Proofs.YtfiamddinkokbaaW.PrintWords
set_option linter.unusedVariables false
def numStep (kn : List (List UInt8)) (s : ByteArray) : List (List UInt8) := if s.data.toList ∈ kn then kn else kn ++ [s.data.toList]
def numOf (kn : List (List UInt8)) (s : ByteArray) : Int := (kn.idxOf s.data.toList : Nat)
def numRow : List (List UInt8) → List ByteArray → List Int
 | _, [] => []
 | kn, s :: t => numOf kn s :: numRow (numStep kn s) t
def knRow (kn : List (List UInt8)) (l : List ByteArray) : List (List UInt8) := l.foldl numStep kn
def numAll : List (List UInt8) → List (List ByteArray) → List (List Int)
 | _, [] => []
 | kn, f :: t => numRow kn f :: numAll (knRow kn f) t
def knAll (kn : List (List UInt8)) (fs : List (List ByteArray)) : List (List UInt8) := fs.foldl knRow kn
def numberB (fs : List (List ByteArray)) : List (List Int) := numAll [] fs
theorem numRow_snoc (kn : List (List UInt8)) (l : List ByteArray) (s : ByteArray) : numRow kn (l ++ [s]) = numRow kn l ++ [numOf (knRow kn l) s] := by
 induction l generalizing kn with
 | nil => rfl
 | cons a t ih => simp only [List.cons_append, numRow, knRow, List.foldl_cons]; rw [ih]; rfl
theorem knRow_snoc (kn : List (List UInt8)) (l : List ByteArray) (s : ByteArray) : knRow kn (l ++ [s]) = numStep (knRow kn l) s := by simp [knRow]
theorem numAll_snoc (kn : List (List UInt8)) (fs : List (List ByteArray)) (f : List ByteArray) : numAll kn (fs ++ [f]) = numAll kn fs ++ [numRow (knAll kn fs) f] := by
 induction fs generalizing kn with
 | nil => rfl
 | cons a t ih => simp only [List.cons_append, numAll, knAll, List.foldl_cons]; rw [ih]; rfl
theorem knAll_snoc (kn : List (List UInt8)) (fs : List (List ByteArray)) (f : List ByteArray) : knAll kn (fs ++ [f]) = knRow (knAll kn fs) f := by simp [knAll]
theorem numRow_length (kn : List (List UInt8)) (l : List ByteArray) : (numRow kn l).length = l.length := by
 induction l generalizing kn with
 | nil => rfl
 | cons a t ih => simp [numRow, ih]
theorem numAll_length (kn : List (List UInt8)) (fs : List (List ByteArray)) : (numAll kn fs).length = fs.length := by
 induction fs generalizing kn with
 | nil => rfl
 | cons a t ih => simp [numAll, ih]
def Knows (D : DataW Unit) (kn : List (List UInt8)) : Prop :=
 Maps.Tidy D ∧ Maps.size D = kn.length ∧ ∀ s : List UInt8, Maps.has D (.string s) = decide (s ∈ kn) ∧ (s ∈ kn → D.atKey (.string s) (.lit (.int .i64 0)) = .lit (.int .i64 (kn.idxOf s : Nat)))
theorem knows_nil : Knows (.map []) [] := ⟨Maps.tidy_empty, rfl, fun s => ⟨by simp [Maps.has], fun h => by simp at h⟩⟩
theorem knows_put {D : DataW Unit} {kn : List (List UInt8)} (h : Knows D kn) (s : List UInt8) (hs : s ∉ kn) : Knows (D.put (.string s) (.lit (.int .i64 (kn.length : Nat)))) (kn ++ [s]) := by
 obtain ⟨h1, h2, h3⟩ := h
 have hh := (h3 s).1
 rw [decide_eq_false hs] at hh
 have hk : WideAt.IsKeyLit (.string s) := trivial
 refine ⟨h1.put hk _, ?_, fun t => ?_⟩
 ·rw [Maps.size_put h1, hh, h2]; simp
 ·by_cases ht : t = s
  ·subst ht
   refine ⟨?_, fun _ => ?_⟩
   ·rw [Maps.has_put_same h1.isMap hk]; simp
   ·rw [Maps.atKey_put_same h1.isMap hk]
    rw [List.idxOf_append, if_neg hs]; simp
  ·have hne : (Lit.string t) ≠ .string s := fun e => ht (by injection e)
   refine ⟨?_, fun hm => ?_⟩
   ·rw [Maps.has_put_other hne, (h3 t).1]; simp [ht]
   ·rw [Maps.atKey_put_other hne]
    have hm' : t ∈ kn := by simpa [ht] using hm
    rw [(h3 t).2 hm', List.idxOf_append, if_pos hm']
theorem num_keyed : Maps.Keyed Try.prog 9 := Maps.string_keyed Try.underlying9
theorem num_zero (w : World) : (zeroValue 3).run Try.prog w = .ok (.int .i64 0) w := by kernel_rfl
theorem num_info3 : (Try.prog.info? 3).map (fun i => (i.zero, i.size, i.bytes)) = some (some (.int .i64 0), 1, 8) := by kernel_rfl
theorem num_info50 : (Try.prog.info? 50).map (fun i => (i.zero, i.size, i.bytes)) = some (some (.slice none 0 0), 1, 24) := by kernel_rfl
def total (fs : List (List ByteArray)) : Nat := (fs.map List.length).sum
set_option maxRecDepth 100000 in
set_option maxHeartbeats 4000000 in
theorem number_calls (A0 : Option Addr) (c0 : Nat) (l0 : List (List ByteArray)) (w : World) (hr0 : Kd.C (Kd.slice 9 Kd.string) w A0 l0.length l0) (hc0 : l0.length ≤ c0) (hsz : ∀ f ∈ l0, ∀ s ∈ f, s.size ≤ 4000000000) (ht : total l0 ≤ 4000000000) (hl0 : l0.length ≤ 4000000000) :
  Calls Try.prog 38 #[.slice A0 l0.length c0] w fun e w' => ∃ v0_ : Value, e = .returned (v0_) ∧ Kd.S (Kd.slice 3 (Kd.int .i64)) 50 w' w.heap.size (fun _ => True) v0_ (numberB l0) ∧ Below w.heap.size w w' := by
 have hmm := @run_makeMap Try.prog
 go_enter Try.func38, Try.ntmps38
 go_wp2
 go_loopw [4, 15] (fun v4 v15 wr => ∃ i : Nat, i ≤ l0.length ∧ v15 = .int .i64 i ∧ Aside0 (Kd.S (Kd.slice 3 (Kd.int .i64)) 50 wr w.heap.size (fun k => k ≠ w.heap.size) v4 (numAll [] (l0.take i))) ∧ Aside0 (∃ D : DataW Unit, wr.ownsMap Try.prog 9 (plainElem Try.prog 3) w.heap.size (total (l0.take i)) D ∧ Knows D (knAll [] (l0.take i))) ∧ Aside0 (Below w.heap.size w wr))
  (fun _ v15 _ => l0.length - (intOf v15).toNat)
 case atStart =>
  exact ⟨0, Nat.zero_le _, rfl, ⟨Kd.S_nil _ _ _ _ _⟩, ⟨.map [], World.ownsMap_made _ _ _ _, knows_nil⟩, ⟨(Below.refl _ _).alloc (Nat.le_refl _) _⟩⟩
 case round =>
  obtain ⟨i, hi, rfl, HS, HM, HB⟩ := hrel
  by_cases hlt : i < l0.length
  ·obtain ⟨f, hf⟩ : ∃ f, l0[i]? = some f := ⟨_, List.getElem?_eq_getElem hlt⟩
   obtain ⟨ad, rfl, hc⟩ := hr0.2.2 (by omega)
   obtain ⟨c, hcl, hck, hcell⟩ := hc i f hf
   obtain ⟨Ai, ci, rfl, hfc, hfr⟩ := hck
   have hcw : w.cell? (ad.add i) = some (.slice Ai f.length ci) := by
    have := hcell 0 _ rfl
    simpa [show (Kd.slice 9 Kd.string).sz = 1 from rfl] using this
   have hcr : wr.cell? (ad.add i) = some (.slice Ai f.length ci) := (HB.out.cell (World.block_lt_of_cell? w _ hcw)).trans hcw
   have htk : l0.take (i + 1) = l0.take i ++ [f] := by rw [List.take_add_one, hf]; rfl
   have hft : total (l0.take i) + f.length ≤ total l0 := by
    have h1 : total (l0.take (i + 1)) = total (l0.take i) + f.length := by rw [htk]; simp [total]
    have h2 : total (l0.take (i + 1)) + total (l0.drop (i + 1)) = total l0 := by
     unfold total; rw [← List.sum_append, ← List.map_append, List.take_append_drop]
    omega
   have HTK := Lib.hid htk
   have HC := Lib.hid hc
   have HF := Lib.hid hf
   have HCELL := Lib.hid hcell
   have HFR := Aside0.mk hfr
   have HW := Aside0.mk hcw
   have hl1 : ((l0.take i).map List.length).sum = total (l0.take i) := rfl
   clear htk hc hf hcell hfr hcw hl1
   go_wp2
   obtain ⟨wo, rfl⟩ : ∃ wo : World, wo = wr := ⟨_, rfl⟩
   go_loopw [7, 21] (fun v7 v21 wr => ∃ j : Nat, j ≤ f.length ∧ v21 = .int .i64 j ∧ Aside0 (Kd.R (Kd.int .i64) 3 wr w.heap.size (fun k => k ≠ w.heap.size) v7 (numRow (knAll [] (l0.take i)) (f.take j))) ∧
     Aside0 (Kd.S (Kd.slice 3 (Kd.int .i64)) 50 wr w.heap.size (fun k => k ≠ w.heap.size ∧ some k ≠ v7.ownBlock) u4 (numAll [] (l0.take i))) ∧
     Aside0 (∃ D : DataW Unit, wr.ownsMap Try.prog 9 (plainElem Try.prog 3) w.heap.size (total (l0.take i) + j) D ∧ Knows D (knRow (knAll [] (l0.take i)) (f.take j))) ∧ Aside0 (Below w.heap.size w wr))
    (fun _ v21 _ => f.length - (intOf v21).toNat)
   case atStart =>
    exact ⟨0, Nat.zero_le _, rfl, ⟨Kd.R_nil _ _ _ _ _⟩, ⟨Kd.S_mono HS.out (fun k hk => ⟨hk, by simp [Value.ownBlock]⟩)⟩, HM, HB⟩
   case round =>
    obtain ⟨j, hj, rfl, HR, HS2, HM2, HB2⟩ := hrel
    by_cases hjt : j < f.length
    ·obtain ⟨s, hs⟩ : ∃ s, f[j]? = some s := ⟨_, List.getElem?_eq_getElem hjt⟩
     have hss : s.size ≤ 4000000000 := hsz f (List.mem_of_getElem? HF.out) s (List.mem_of_getElem? hs)
     obtain ⟨adi, rfl, hci⟩ := HFR.out.2.2 (by omega)
     obtain ⟨ci2, _, hck2, hcell2⟩ := hci j s hs
     have hck3 : ci2 = [Value.string s] := hck2
     subst hck3
     have hsw : w.cell? (adi.add j) = some (.string s) := by
      have := hcell2 0 _ rfl
      simpa [show (Kd.string).sz = 1 from rfl] using this
     have hsr : wr.cell? (adi.add j) = some (.string s) := (HB2.out.cell (World.block_lt_of_cell? w _ hsw)).trans hsw
     have hcr2 : wr.cell? (ad.add i) = some (.slice (some adi) f.length ci) := (HB2.out.cell (World.block_lt_of_cell? w _ HW.out)).trans HW.out
     have htj : f.take (j + 1) = f.take j ++ [s] := by rw [List.take_add_one, hs]; rfl
     have HTJ := Lib.hid htj
     have HSS := Lib.hid hs
     obtain ⟨D, hown, hkn⟩ := HM2.out
     have HKN := Aside0.mk hkn
     have hkey := WideMaps.keyOf_string_mk (P := Try.prog) Try.underlying9 (s := s) (by unfold maxLen; omega)
     have hnew : w.heap.size < wr.heap.size := hown.lt
     by_cases hm : s.data.toList ∈ knRow (knAll [] (l0.take i)) (f.take j)
     ·have hhas : Maps.has D (.string s.data.toList) = true := by rw [(hkn.2.2 _).1]; exact decide_eq_true hm
      have HAT := Lib.hid ((hkn.2.2 _).2 hm)
      have HMEM := Lib.hid hm
      clear htj hs hsw hci hcell2 hck2 hkn hm
      have hne : some w.heap.size ≠ u7.ownBlock := fun e => HR.out.1 _ e.symm rfl
      have hrl : (numRow (knAll [] (l0.take i)) (f.take j)).length ≤ 4000000000 := by rw [numRow_length, List.length_take]; omega
      go_wp2_with (first | (at_lookup; refine wpList_lookup_own_ok_int _ rfl _ _ 119 rfl 9 3 .i64 num_keyed Try.underlying119 Try.underlying3 (num_zero _) w.heap.size _ D rfl hown _ _ rfl hkey ?_; intro c hat hwc; rw [HAT.out] at hat; injection hat with hat; injection hat with _ hat; have HCC := Lib.hid hat; clear hat hwc) | (at_builtin; refine Kd.R_append (Kd.int .i64) (w0 := w) w.heap.size rfl (.tmp 38) (.tmp 40) 50 3 (.int .i64 0) 8 rfl Try.underlying50 num_info3 rfl (by decide) (by omega) u7 (numRow (knAll [] (l0.take i)) (f.take j)) c [.int .i64 c] (fun k => k ≠ w.heap.size) (fun _ => False) rfl rfl rfl (fun _ hk => hk.elim) (fun k hk => by omega) HR.out HB2.out HB2.out.size (by omega) ?_; intro v1 w1 ho hb hg hat; have HO := Aside0.mk ho; have HB3 := Aside0.mk hb; have HS3 := Aside0.mk (Kd.S_after HS2.out hg hat); have HM3 := Aside0.mk (hown.kept hg hne); clear ho hb hg hat))
      go_roundw
      case rel =>
       refine ⟨j + 1, by omega, by go_num, ⟨?_⟩, HS3, ⟨D, ?_, ?_⟩, HB3⟩
       ·rw [HTJ.out, numRow_snoc, numOf, HCC.out]; exact HO.out
       ·exact HM3.out.mono (by omega)
       ·rw [HTJ.out, knRow_snoc, numStep, if_pos HMEM.out]; exact HKN.out
      case measure => simp [intOf]; omega
     ·have hhas : Maps.has D (.string s.data.toList) = false := by rw [(hkn.2.2 _).1]; exact decide_eq_false hm
      have hsize := hkn.2.1
      have hput := Aside0.mk (knows_put hkn _ hm)
      have HMEM := Lib.hid hm
      have hknl : (knRow (knAll [] (l0.take i)) (f.take j)).length ≤ total (l0.take i) + j := by
       rw [← hsize]; exact hown.size_le
      have hszb : Maps.size D ≤ 4000000000 := by omega
      have HSZ := Lib.hid hsize
      have hwf : (Lit.int .i64 (Maps.size D : Int)).wf = true := WalkArith.wf_i64 (by omega)
      clear htj hs hsw hci hcell2 hck2 hkn hm hsize
      have hne : some w.heap.size ≠ u7.ownBlock := fun e => HR.out.1 _ e.symm rfl
      have hrl : (numRow (knAll [] (l0.take i)) (f.take j)).length ≤ 4000000000 := by rw [numRow_length, List.length_take]; omega
      go_wp2_with (first | (at_lookup; refine wpList_lookup_own_ok_int _ rfl _ _ 119 rfl 9 3 .i64 num_keyed Try.underlying119 Try.underlying3 (num_zero _) w.heap.size _ D rfl hown _ _ rfl hkey ?_; intro c hat hwc; clear hat hwc) | (at_len; refine wpList_len_own _ rfl _ 119 rfl 9 3 Try.underlying119 (plainElem Try.prog 3) w.heap.size _ D rfl hown ?_) | (at_mapUpdate; refine wpList_mapUpdate_own _ rfl _ _ _ 119 rfl 9 3 num_keyed Try.underlying119 (plainElem Try.prog 3) w.heap.size _ D rfl hown (by unfold maxLen; omega) _ _ _ rfl rfl hkey _ [] (plainElem_int Try.underlying3 hwf) ?_; intro w5 hown5 hgrow5; have HM5 := Aside0.mk hown5; have HR5 := Aside0.mk (Kd.R_grown HR.out hgrow5 (fun k hk e => hk (Option.some.inj e))); have HS5 := Aside0.mk (Kd.S_grown HS2.out hgrow5 (fun k hk e => hk.1 (Option.some.inj e))); have HB5 := Aside0.mk (HB2.out.grown hgrow5 HB2.out.size (fun k e => by cases e; exact Nat.le_refl _)); have hnew5 := hown5.lt; clear hown5 hgrow5) | (at_builtin; refine Kd.R_append (Kd.int .i64) (w0 := w) w.heap.size rfl (.tmp 38) (.tmp 40) 50 3 (.int .i64 0) 8 rfl Try.underlying50 num_info3 rfl (by decide) (by omega) u7 (numRow (knAll [] (l0.take i)) (f.take j)) (Maps.size D : Int) [.int .i64 (Maps.size D : Int)] (fun k => k ≠ w.heap.size) (fun _ => False) rfl rfl rfl (fun _ hk => hk.elim) (fun k hk => by omega) HR5.out HB5.out HB5.out.size (by omega) ?_; intro v1 w1 ho hb hg hat; have HO := Aside0.mk ho; have HB3 := Aside0.mk hb; have HS3 := Aside0.mk (Kd.S_after HS5.out hg hat); have HM3 := Aside0.mk (HM5.out.kept hg hne); clear ho hb hg hat))
      go_roundw
      case rel =>
       refine ⟨j + 1, by omega, by go_num, ⟨?_⟩, HS3, ⟨_, HM3.out, ?_⟩, HB3⟩
       ·rw [HTJ.out, numRow_snoc, numOf, List.idxOf_eq_length HMEM.out, ← HSZ.out]; exact HO.out
       ·rw [HTJ.out, knRow_snoc, numStep, if_neg HMEM.out, HSZ.out]; exact hput.out
      case measure => simp [intOf]; omega
    ·have hjf : j = f.length := by omega
     subst hjf
     rw [List.take_length] at HR HM2
     obtain ⟨Ao, co, eo⟩ := Kd.R_slice HR.out
     subst eo
     obtain ⟨D, hown, hkn⟩ := HM2.out
     have HKN := Aside0.mk hkn
     have hne : some w.heap.size ≠ u4.ownBlock := fun e => ((Kd.S_R HS2.out).1 _ e.symm).1 rfl
     have hol : (numAll [] (l0.take i)).length ≤ 4000000000 := by rw [numAll_length, List.length_take]; omega
     have HP := Aside0.mk (show (Kd.slice 3 (Kd.int .i64)).M wr w.heap.size (fun k => some k = (Value.slice Ao (numRow (knAll [] (l0.take i)) f).length co).ownBlock) (numRow (knAll [] (l0.take i)) f) [.slice Ao (numRow (knAll [] (l0.take i)) f).length co] from ⟨_, rfl, fun k hk => hk.symm, HR.out.2⟩)
     have HK := Aside0.mk (show ∀ k, some k = (Value.slice Ao (numRow (knAll [] (l0.take i)) f).length co).ownBlock → k ≠ w.heap.size ∧ some k ≠ u4.ownBlock from fun k hk => ⟨HR.out.1 k hk.symm, fun e => ((Kd.S_R HS2.out).1 k e.symm).2 hk⟩)
     have HO5 := Aside0.mk (Kd.S_mono HS2.out (ok' := fun k => k ≠ w.heap.size ∧ ¬ (some k = (Value.slice Ao (numRow (knAll [] (l0.take i)) f).length co).ownBlock)) (fun k hk => ⟨hk.1, fun e => hk.2 e⟩))
     have hnew : w.heap.size < wr.heap.size := hown.lt
     clear hkn
     go_wp2_with (at_builtin; refine Kd.S_append (Kd.slice 3 (Kd.int .i64)) (w0 := w) w.heap.size rfl (.tmp 43) (.tmp 45) 43 50 (.slice none 0 0) 24 rfl Try.underlying43 num_info50 rfl (by decide) (by omega) u4 (numAll [] (l0.take i)) (numRow (knAll [] (l0.take i)) f) [.slice Ao (numRow (knAll [] (l0.take i)) f).length co] (fun k => k ≠ w.heap.size) (fun k => some k = (Value.slice Ao (numRow (knAll [] (l0.take i)) f).length co).ownBlock) rfl rfl HP.out HK.out (fun k hk => by omega) HO5.out HB2.out HB2.out.size (by omega) ?_; intro v1 w1 ho hb hg hat; have HO := Aside0.mk ho; have HB3 := Aside0.mk hb; have HM3 := Aside0.mk (hown.kept hg hne); clear ho hb hg hat)
     go_roundw
     case rel =>
      refine ⟨i + 1, by omega, by go_num, ⟨?_⟩, ⟨D, ?_, ?_⟩, HB3⟩
      ·rw [HTK.out, numAll_snoc]; exact HO.out
      ·rw [HTK.out]; simpa [total] using HM3.out
      ·rw [HTK.out, knAll_snoc]; exact HKN.out
     case measure => simp [intOf]; omega
  ·have hil : i = l0.length := by omega
   subst hil
   rw [List.take_length] at HS HM
   go_wp2
   go_ret
   exact ⟨_, rfl, Kd.S_mono HS.out (fun _ _ => trivial), HB.out⟩
#print axioms number_calls
theorem ext_number (A0 : Option Addr) (c0 : Nat) (l0 : List (List ByteArray)) (r : List (List Int)) (w : World) (hr0 : Kd.C (Kd.slice 9 Kd.string) w A0 l0.length l0) (hc0 : l0.length ≤ c0)
  (h : (if (∀ f ∈ l0, ∀ s ∈ f, s.size ≤ 4000000000) ∧ total l0 ≤ 4000000000 ∧ l0.length ≤ 4000000000 then some (numberB l0) else none) = some r) :
  Calls Try.prog 38 #[.slice A0 l0.length c0] w fun e w' => ∃ v0_ : Value, e = .returned (v0_) ∧ Kd.S (Kd.slice 3 (Kd.int .i64)) 50 w' w.heap.size (fun _ => True) v0_ r ∧ Below w.heap.size w w' := by
 split at h
 ·rename_i hs
  obtain rfl := Option.some.inj h
  exact number_calls A0 c0 l0 w hr0 hc0 hs.1 hs.2.1 hs.2.2
 ·cases h
end Go.Proofs.Ytfiamddinkokbaa
end

section
set_option linter.unusedVariables false
set_option linter.unusedSimpArgs false
namespace Go.Proofs.Ytfiamddinkokbaa.F
open Go.RowKit Go.Proofs.YtfiamddinkokbaaW.PrintWords Go.Proofs.YtfiamddinkokbaaW.PrintLast Go.Proofs.YtfiamddinkokbaaW.PrintMore
attribute [local go_sem] max2_int min2_int max_two min_two max_three min_three max_four min_four
set_option linter.unusedVariables false
set_option linter.unusedSimpArgs false
def errW : Option Int → Value
 | none => .nilIface
 | some c => .iface 0 (.int .i64 c)
theorem errW_none : errW none = .nilIface := rfl
theorem errW_some (c : Int) : errW (some c) = .iface 0 (.int .i64 c) := rfl
theorem info9 : (Try.prog.info? 9).map (fun i => (i.zero, i.size, i.bytes)) = some (some (.string ⟨#[]⟩), 1, 16) := by kernel_rfl
theorem info106 : (Try.prog.info? 106).map (fun i => (i.zero, i.size, i.bytes)) = some (some (.agg #[(.string ⟨#[]⟩), (.string ⟨#[]⟩), (.string ⟨#[]⟩), (.bool false), (.string ⟨#[]⟩), (.string ⟨#[]⟩), (.string ⟨#[]⟩), (.string ⟨#[]⟩), (.bool false)]), 9, 128) := by kernel_rfl
def rd_L1 (xs : List (List ByteArray)) (i : Int) : (List ByteArray) := xs.getD i.toNat ([] : List ByteArray)
theorem at_L1 {w : World} {A : Option Addr} {n : Nat} {xs : List (List ByteArray)} (h : Kd.C (Kd.slice 9 Kd.string) w A n xs) (i : Int) (h0 : 0 ≤ i) (h1 : i < n) : ∃ ad A0 c0, A = some ad ∧ w.cell? (ad.add i.toNat) = some (.slice A0 (rd_L1 xs i).length c0) ∧ (rd_L1 xs i).length ≤ c0 ∧ Kd.string.C w A0 (rd_L1 xs i).length (rd_L1 xs i) := by
 obtain ⟨ad, c, e, _, hK, hc0⟩ := Kd.C_get h ([] : List ByteArray) i h0 h1
 have hc : ∀ j u, c[j]? = some u → w.cell? (ad.add (i.toNat * 1 + j)) = some u := hc0
 obtain ⟨A0, c0, rfl, l0, g0⟩ := hK
 exact ⟨ad, A0, c0, e, by have hq := hc 0 _ rfl; rwa [Nat.mul_one, Nat.add_zero] at hq, l0, g0⟩
structure S84 where
 f0 : ByteArray
 f1 : ByteArray
 f2 : ByteArray
def z84 : S84 := ⟨(⟨#[]⟩ : ByteArray), (⟨#[]⟩ : ByteArray), (⟨#[]⟩ : ByteArray)⟩
def k84 : Kd S84 := Kd.iso (Kd.pair Kd.string (Kd.pair Kd.string Kd.string)) (fun x : S84 => (x.f0, x.f1, x.f2))
theorem k84_open {w : World} {x : S84} {cs : List Value} (h : k84.K w x cs) : cs = [.string x.f0, .string x.f1, .string x.f2] := by
 obtain ⟨_, _, rfl, rfl, ⟨_, _, rfl, rfl, rfl⟩⟩ := h
 exact rfl
theorem k84_openM {w : World} {base : Nat} {ok : Nat → Prop} {x : S84} {cs : List Value} (h : k84.M w base ok x cs) : cs = [.string x.f0, .string x.f1, .string x.f2] := by
 obtain ⟨_, _, rfl, rfl, ⟨_, _, rfl, rfl, rfl⟩⟩ := h
 exact rfl
theorem k84_mkM (w : World) (base : Nat) (ok : Nat → Prop) (x : S84)  : k84.M w base ok x [.string x.f0, .string x.f1, .string x.f2] := ⟨[.string x.f0], [.string x.f1, .string x.f2], rfl, rfl, ⟨[.string x.f1], [.string x.f2], rfl, rfl, rfl⟩⟩
structure S106 where
 f0 : S84
 f1 : Bool
 f2 : ByteArray
 f3 : ByteArray
 f4 : ByteArray
 f5 : ByteArray
 f6 : Bool
def z106 : S106 := ⟨z84, false, (⟨#[]⟩ : ByteArray), (⟨#[]⟩ : ByteArray), (⟨#[]⟩ : ByteArray), (⟨#[]⟩ : ByteArray), false⟩
def k106 : Kd S106 := Kd.iso (Kd.pair k84 (Kd.pair Kd.bool (Kd.pair Kd.string (Kd.pair Kd.string (Kd.pair Kd.string (Kd.pair Kd.string Kd.bool)))))) (fun x : S106 => (x.f0, x.f1, x.f2, x.f3, x.f4, x.f5, x.f6))
theorem k106_open {w : World} {x : S106} {cs : List Value} (h : k106.K w x cs) : cs = [.string x.f0.f0, .string x.f0.f1, .string x.f0.f2, .bool x.f1, .string x.f2, .string x.f3, .string x.f4, .string x.f5, .bool x.f6] := by
 obtain ⟨_, _, rfl, s0, ⟨_, _, rfl, rfl, ⟨_, _, rfl, rfl, ⟨_, _, rfl, rfl, ⟨_, _, rfl, rfl, ⟨_, _, rfl, rfl, rfl⟩⟩⟩⟩⟩⟩ := h
 obtain rfl := k84_open s0
 exact rfl
theorem k106_openM {w : World} {base : Nat} {ok : Nat → Prop} {x : S106} {cs : List Value} (h : k106.M w base ok x cs) : cs = [.string x.f0.f0, .string x.f0.f1, .string x.f0.f2, .bool x.f1, .string x.f2, .string x.f3, .string x.f4, .string x.f5, .bool x.f6] := by
 obtain ⟨_, _, rfl, s0, ⟨_, _, rfl, rfl, ⟨_, _, rfl, rfl, ⟨_, _, rfl, rfl, ⟨_, _, rfl, rfl, ⟨_, _, rfl, rfl, rfl⟩⟩⟩⟩⟩⟩ := h
 obtain rfl := k84_openM s0
 exact rfl
theorem k106_mkM (w : World) (base : Nat) (ok : Nat → Prop) (x : S106)  : k106.M w base ok x [.string x.f0.f0, .string x.f0.f1, .string x.f0.f2, .bool x.f1, .string x.f2, .string x.f3, .string x.f4, .string x.f5, .bool x.f6] := ⟨[.string x.f0.f0, .string x.f0.f1, .string x.f0.f2], [.bool x.f1, .string x.f2, .string x.f3, .string x.f4, .string x.f5, .bool x.f6], rfl, (k84_mkM w base ok x.f0 ), ⟨[.bool x.f1], [.string x.f2, .string x.f3, .string x.f4, .string x.f5, .bool x.f6], rfl, rfl, ⟨[.string x.f2], [.string x.f3, .string x.f4, .string x.f5, .bool x.f6], rfl, rfl, ⟨[.string x.f3], [.string x.f4, .string x.f5, .bool x.f6], rfl, rfl, ⟨[.string x.f4], [.string x.f5, .bool x.f6], rfl, rfl, ⟨[.string x.f5], [.bool x.f6], rfl, rfl, rfl⟩⟩⟩⟩⟩⟩
def rd_T106 (xs : List S106) (i : Int) : S106 := xs.getD i.toNat z106
theorem at_T106 {w : World} {A : Option Addr} {n : Nat} {xs : List S106} (h : Kd.C k106 w A n xs) (i : Int) (h0 : 0 ≤ i) (h1 : i < n) : ∃ ad , A = some ad ∧ w.cell? (ad.add (i.toNat * 9)) = some (.string (rd_T106 xs i).f0.f0) ∧ w.cell? ⟨(ad.add (i.toNat * 9)).block, (ad.add (i.toNat * 9)).off + 1, none⟩ = some (.string (rd_T106 xs i).f0.f1) ∧ w.cell? ⟨(ad.add (i.toNat * 9)).block, (ad.add (i.toNat * 9)).off + 2, none⟩ = some (.string (rd_T106 xs i).f0.f2) ∧ w.cell? ⟨(ad.add (i.toNat * 9)).block, (ad.add (i.toNat * 9)).off + 3, none⟩ = some (.bool (rd_T106 xs i).f1) ∧ w.cell? ⟨(ad.add (i.toNat * 9)).block, (ad.add (i.toNat * 9)).off + 4, none⟩ = some (.string (rd_T106 xs i).f2) ∧ w.cell? ⟨(ad.add (i.toNat * 9)).block, (ad.add (i.toNat * 9)).off + 5, none⟩ = some (.string (rd_T106 xs i).f3) ∧ w.cell? ⟨(ad.add (i.toNat * 9)).block, (ad.add (i.toNat * 9)).off + 6, none⟩ = some (.string (rd_T106 xs i).f4) ∧ w.cell? ⟨(ad.add (i.toNat * 9)).block, (ad.add (i.toNat * 9)).off + 7, none⟩ = some (.string (rd_T106 xs i).f5) ∧ w.cell? ⟨(ad.add (i.toNat * 9)).block, (ad.add (i.toNat * 9)).off + 8, none⟩ = some (.bool (rd_T106 xs i).f6) := by
 obtain ⟨ad, c, e, _, hK, hc0⟩ := Kd.C_get h z106 i h0 h1
 have hc : ∀ j u, c[j]? = some u → w.cell? (ad.add (i.toNat * 9 + j)) = some u := hc0
 obtain rfl := k106_open hK
 exact ⟨ad, e, hc 0 _ rfl, by rw [← add_field _ _ 1 (by omega)]; exact hc 1 _ rfl, by rw [← add_field _ _ 2 (by omega)]; exact hc 2 _ rfl, by rw [← add_field _ _ 3 (by omega)]; exact hc 3 _ rfl, by rw [← add_field _ _ 4 (by omega)]; exact hc 4 _ rfl, by rw [← add_field _ _ 5 (by omega)]; exact hc 5 _ rfl, by rw [← add_field _ _ 6 (by omega)]; exact hc 6 _ rfl, by rw [← add_field _ _ 7 (by omega)]; exact hc 7 _ rfl, by rw [← add_field _ _ 8 (by omega)]; exact hc 8 _ rfl⟩
structure S109 where
 f0 : ByteArray
 f1 : ByteArray
 f2 : ByteArray
 f3 : Bool
 f4 : ByteArray
 f5 : ByteArray
 f6 : ByteArray
 f7 : ByteArray
 f8 : Bool
def z109 : S109 := ⟨(⟨#[]⟩ : ByteArray), (⟨#[]⟩ : ByteArray), (⟨#[]⟩ : ByteArray), false, (⟨#[]⟩ : ByteArray), (⟨#[]⟩ : ByteArray), (⟨#[]⟩ : ByteArray), (⟨#[]⟩ : ByteArray), false⟩
def rd_L7 (xs : List (List Int)) (i : Int) : (List Int) := xs.getD i.toNat ([] : List Int)
theorem at_L7 {w : World} {A : Option Addr} {n : Nat} {xs : List (List Int)} (h : Kd.C (Kd.slice 3 (Kd.int .i64)) w A n xs) (i : Int) (h0 : 0 ≤ i) (h1 : i < n) : ∃ ad A0 c0, A = some ad ∧ w.cell? (ad.add i.toNat) = some (.slice A0 (rd_L7 xs i).length c0) ∧ (rd_L7 xs i).length ≤ c0 ∧ (Kd.int .i64).C w A0 (rd_L7 xs i).length (rd_L7 xs i) := by
 obtain ⟨ad, c, e, _, hK, hc0⟩ := Kd.C_get h ([] : List Int) i h0 h1
 have hc : ∀ j u, c[j]? = some u → w.cell? (ad.add (i.toNat * 1 + j)) = some u := hc0
 obtain ⟨A0, c0, rfl, l0, g0⟩ := hK
 exact ⟨ad, A0, c0, e, by have hq := hc 0 _ rfl; rwa [Nat.mul_one, Nat.add_zero] at hq, l0, g0⟩
structure S89 where
 f0 : Int
 f1 : Int
def z89 : S89 := ⟨(0 : Int), (0 : Int)⟩
def k89 : Kd S89 := Kd.iso (Kd.pair (Kd.int .i64) (Kd.int .i64)) (fun x : S89 => (x.f0, x.f1))
theorem k89_open {w : World} {x : S89} {cs : List Value} (h : k89.K w x cs) : cs = [.int .i64 x.f0, .int .i64 x.f1] := by
 obtain ⟨_, _, rfl, rfl, rfl⟩ := h
 exact rfl
theorem k89_mkM (w : World) (base : Nat) (ok : Nat → Prop) (x : S89)  : k89.M w base ok x [.int .i64 x.f0, .int .i64 x.f1] := ⟨[.int .i64 x.f0], [.int .i64 x.f1], rfl, rfl, rfl⟩
structure S91 where
 f0 : Bool
 f1 : S89
 f2 : S89
 f3 : S89
def z91 : S91 := ⟨false, z89, z89, z89⟩
def k91 : Kd S91 := Kd.iso (Kd.pair Kd.bool (Kd.pair k89 (Kd.pair k89 k89))) (fun x : S91 => (x.f0, x.f1, x.f2, x.f3))
theorem k91_open {w : World} {x : S91} {cs : List Value} (h : k91.K w x cs) : cs = [.bool x.f0, .int .i64 x.f1.f0, .int .i64 x.f1.f1, .int .i64 x.f2.f0, .int .i64 x.f2.f1, .int .i64 x.f3.f0, .int .i64 x.f3.f1] := by
 obtain ⟨_, _, rfl, rfl, ⟨_, _, rfl, s1, ⟨_, _, rfl, s3, s5⟩⟩⟩ := h
 obtain rfl := k89_open s1
 obtain rfl := k89_open s3
 obtain rfl := k89_open s5
 exact rfl
theorem k91_mkM (w : World) (base : Nat) (ok : Nat → Prop) (x : S91)  : k91.M w base ok x [.bool x.f0, .int .i64 x.f1.f0, .int .i64 x.f1.f1, .int .i64 x.f2.f0, .int .i64 x.f2.f1, .int .i64 x.f3.f0, .int .i64 x.f3.f1] := ⟨[.bool x.f0], [.int .i64 x.f1.f0, .int .i64 x.f1.f1, .int .i64 x.f2.f0, .int .i64 x.f2.f1, .int .i64 x.f3.f0, .int .i64 x.f3.f1], rfl, rfl, ⟨[.int .i64 x.f1.f0, .int .i64 x.f1.f1], [.int .i64 x.f2.f0, .int .i64 x.f2.f1, .int .i64 x.f3.f0, .int .i64 x.f3.f1], rfl, (k89_mkM w base ok x.f1 ), ⟨[.int .i64 x.f2.f0, .int .i64 x.f2.f1], [.int .i64 x.f3.f0, .int .i64 x.f3.f1], rfl, (k89_mkM w base ok x.f2 ), (k89_mkM w base ok x.f3 )⟩⟩⟩
def rd_T91 (xs : List S91) (i : Int) : S91 := xs.getD i.toNat z91
theorem at_T91 {w : World} {A : Option Addr} {n : Nat} {xs : List S91} (h : Kd.C k91 w A n xs) (i : Int) (h0 : 0 ≤ i) (h1 : i < n) : ∃ ad , A = some ad ∧ w.cell? (ad.add (i.toNat * 7)) = some (.bool (rd_T91 xs i).f0) ∧ w.cell? ⟨(ad.add (i.toNat * 7)).block, (ad.add (i.toNat * 7)).off + 1, none⟩ = some (.int .i64 (rd_T91 xs i).f1.f0) ∧ w.cell? ⟨(ad.add (i.toNat * 7)).block, (ad.add (i.toNat * 7)).off + 2, none⟩ = some (.int .i64 (rd_T91 xs i).f1.f1) ∧ w.cell? ⟨(ad.add (i.toNat * 7)).block, (ad.add (i.toNat * 7)).off + 3, none⟩ = some (.int .i64 (rd_T91 xs i).f2.f0) ∧ w.cell? ⟨(ad.add (i.toNat * 7)).block, (ad.add (i.toNat * 7)).off + 4, none⟩ = some (.int .i64 (rd_T91 xs i).f2.f1) ∧ w.cell? ⟨(ad.add (i.toNat * 7)).block, (ad.add (i.toNat * 7)).off + 5, none⟩ = some (.int .i64 (rd_T91 xs i).f3.f0) ∧ w.cell? ⟨(ad.add (i.toNat * 7)).block, (ad.add (i.toNat * 7)).off + 6, none⟩ = some (.int .i64 (rd_T91 xs i).f3.f1) := by
 obtain ⟨ad, c, e, _, hK, hc0⟩ := Kd.C_get h z91 i h0 h1
 have hc : ∀ j u, c[j]? = some u → w.cell? (ad.add (i.toNat * 7 + j)) = some u := hc0
 obtain rfl := k91_open hK
 exact ⟨ad, e, hc 0 _ rfl, by rw [← add_field _ _ 1 (by omega)]; exact hc 1 _ rfl, by rw [← add_field _ _ 2 (by omega)]; exact hc 2 _ rfl, by rw [← add_field _ _ 3 (by omega)]; exact hc 3 _ rfl, by rw [← add_field _ _ 4 (by omega)]; exact hc 4 _ rfl, by rw [← add_field _ _ 5 (by omega)]; exact hc 5 _ rfl, by rw [← add_field _ _ 6 (by omega)]; exact hc 6 _ rfl⟩
structure S196 where
 f0 : Int
 f1 : Int
def z196 : S196 := ⟨(0 : Int), (0 : Int)⟩
def k196 : Kd S196 := Kd.iso (Kd.pair (Kd.int .i64) (Kd.int .i64)) (fun x : S196 => (x.f0, x.f1))
theorem k196_open {w : World} {x : S196} {cs : List Value} (h : k196.K w x cs) : cs = [.int .i64 x.f0, .int .i64 x.f1] := by
 obtain ⟨_, _, rfl, rfl, rfl⟩ := h
 exact rfl
theorem k196_mkM (w : World) (base : Nat) (ok : Nat → Prop) (x : S196)  : k196.M w base ok x [.int .i64 x.f0, .int .i64 x.f1] := ⟨[.int .i64 x.f0], [.int .i64 x.f1], rfl, rfl, rfl⟩
def rd_T196 (xs : List S196) (i : Int) : S196 := xs.getD i.toNat z196
theorem at_T196 {w : World} {A : Option Addr} {n : Nat} {xs : List S196} (h : Kd.C k196 w A n xs) (i : Int) (h0 : 0 ≤ i) (h1 : i < n) : ∃ ad , A = some ad ∧ w.cell? (ad.add (i.toNat * 2)) = some (.int .i64 (rd_T196 xs i).f0) ∧ w.cell? ⟨(ad.add (i.toNat * 2)).block, (ad.add (i.toNat * 2)).off + 1, none⟩ = some (.int .i64 (rd_T196 xs i).f1) := by
 obtain ⟨ad, c, e, _, hK, hc0⟩ := Kd.C_get h z196 i h0 h1
 have hc : ∀ j u, c[j]? = some u → w.cell? (ad.add (i.toNat * 2 + j)) = some u := hc0
 obtain rfl := k196_open hK
 exact ⟨ad, e, hc 0 _ rfl, by rw [← add_field _ _ 1 (by omega)]; exact hc 1 _ rfl⟩
end Go.Proofs.Ytfiamddinkokbaa.F
end

section
set_option linter.unusedVariables false
set_option linter.unusedSimpArgs false
namespace Go.Proofs.Ytfiamddinkokbaa
open Go.RowKit Go.Lib
set_option linter.unusedVariables false
set_option linter.unusedSimpArgs false
set_option maxHeartbeats 2000000 in
set_option maxRecDepth 100000 in
theorem bld_used (b o : Nat) (w : World) (h0 : w.cell? ⟨b, o, none⟩ = some (.pointer (some ⟨b, o, none⟩))) :
  Calls Try.prog 123 #[.pointer (some ⟨b, o, none⟩)] w fun e w' => e = .returned (.tuple #[]) ∧ w' = w := by
 obtain ⟨j, hj, _⟩ := Option.map_eq_some_iff.1 (show (Try.prog.info? 127).map (·.size) = some 2 by kernel_rfl)
 have hu := Try.underlying124
 have hu2 := Try.underlying127
 go_enter Try.func123, Try.ntmps123
 go_wp2
 rw [Lib.run_neq_ptr_same w _ hu hj]
 go_wp2
 go_end0
 exact ⟨rfl, rfl⟩
set_option maxHeartbeats 2000000 in
set_option maxRecDepth 100000 in
theorem bld_fresh (b o : Nat) (T : TypeId) (n : Nat) (w : World) (h0 : w.cell? ⟨b, o, none⟩ = some (.pointer none)) (hsh : w.shape? b = some (T, n)) (hon : o < n) (hfz : w.frozen? ⟨b, o, none⟩ = false)
  (hlies : liesAt Try.prog Try.prog.depth T (n / Try.prog.cellsOf T) o 127 1 = true) :
  Calls Try.prog 123 #[.pointer (some ⟨b, o, none⟩)] w fun e w' => e = .returned (.tuple #[]) ∧ w' = w.setCell ⟨b, o, none⟩ (.pointer (some ⟨b, o, none⟩)) := by
 obtain ⟨j, hj, hjs⟩ := Option.map_eq_some_iff.1 (show (Try.prog.info? 127).map (·.size) = some 2 by kernel_rfl)
 have hu := Try.underlying124
 have hu2 := Try.underlying127
 have hu3 := Try.underlying184
 go_enter Try.func123, Try.ntmps123
 go_wp2
 rw [Lib.run_to_unsafe w ⟨b, o, none⟩ hu hu3 hj (by rw [hjs]; decide) hsh hon]
 simp only [Result.andThen]
 rw [Oper.upon_value]
 try rw [Oper.upon_value]
 go_wp2
 rw [run_callFunc_extern Try.func149 (by kernel_rfl) (by kernel_rfl) (by kernel_rfl) (e := Extern.AbiNoEscape.same) (by kernel_rfl)]
 rw [Lib.run_noEscape]
 simp only [Result.andThen]
 rw [Oper.upon_value]
 go_wp2
 rw [Lib.run_from_unsafe w ⟨b, o, none⟩ hu3 hu hj hsh hlies]
 simp only [Result.andThen]
 rw [Oper.upon_value]
 go_wp2
 go_end0
 exact ⟨rfl, rfl⟩
structure BldAt (T : TypeId) (o : Nat) (B b : Nat) (cs : Array Value) (p v : Value) (bs : List UInt8) (w : World) : Prop where
 lo : B ≤ b
 blk : w.heap[b]? = some (.cells cs T (0, 0))
 at0 : cs[o]? = some p
 at1 : cs[o + 1]? = some v
 ptr : p = .pointer none ∨ p = .pointer (some ⟨b, o, none⟩)
 own : w.ownsRow B 5 1 v bs.length (Lib.byteCells bs)
 ne : v.ownBlock ≠ some b
theorem BldAt.lt {T : TypeId} {o B b : Nat} {cs : Array Value} {p v : Value} {bs : List UInt8} {w : World} (h : BldAt T o B b cs p v bs w) : b < w.heap.size := (Array.getElem?_eq_some_iff.1 h.blk).1
theorem bld_check {T : TypeId} {o B b : Nat} {cs : Array Value} {p v : Value} {bs : List UInt8} {w : World} (h : BldAt T o B b cs p v bs w)
  (hlies : liesAt Try.prog Try.prog.depth T (cs.size / Try.prog.cellsOf T) o 127 1 = true) :
  Calls Try.prog 123 #[.pointer (some ⟨b, o, none⟩)] w fun e w' => e = .returned (.tuple #[]) ∧
   BldAt T o B b (cs.setIfInBounds o (.pointer (some ⟨b, o, none⟩))) (.pointer (some ⟨b, o, none⟩)) v bs w' ∧ Below B w w' ∧ w'.heap.size = w.heap.size ∧ (∀ k, k ≠ b → w'.heap[k]? = w.heap[k]?) := by
 have ho : o < cs.size := (Array.getElem?_eq_some_iff.1 h.at0).1
 have hcell : w.cell? ⟨b, o, none⟩ = some p := (Lib.cell_of_heap h.blk o).trans h.at0
 have hc1 : (cs.setIfInBounds o (.pointer (some ⟨b, o, none⟩)))[o]? = some (.pointer (some ⟨b, o, none⟩)) := by
  rw [Array.getElem?_setIfInBounds_self]; simp [ho]
 have hc2 : (cs.setIfInBounds o (.pointer (some ⟨b, o, none⟩)))[o + 1]? = some v := by
  rw [Array.getElem?_setIfInBounds_ne (by omega)]; exact h.at1
 rcases h.ptr with hp | hp
 ·rw [hp] at hcell
  refine (bld_fresh b o T cs.size w hcell (by simp [World.shape?, h.blk]) ho (Lib.frozen_of_heap h.blk o) hlies).mono ?_
  rintro e w' ⟨rfl, rfl⟩
  have hb' : (w.setCell ⟨b, o, none⟩ (.pointer (some ⟨b, o, none⟩))).heap[b]? = some (.cells (cs.setIfInBounds o (.pointer (some ⟨b, o, none⟩))) T (0, 0)) := by
   simp [World.setCell, Array.getElem?_modify, h.blk]
  refine ⟨rfl, ⟨h.lo, hb', hc1, hc2, .inr rfl, ?_, h.ne⟩, (Below.refl B w).setCell (p := ⟨b, o, none⟩) h.lo _, by simp [World.setCell], fun k hk => Below.heap_setCell _ _ _ _ hk⟩
  exact h.own.kept (row := some b) ⟨rfl, rfl, rfl, by simp [World.setCell], fun k _ hk => Below.heap_setCell _ _ _ _ (fun e => hk (by simp [e]))⟩ (Or.inr h.ne)
 ·rw [hp] at hcell
  refine (bld_used b o w hcell).mono ?_
  rintro e w' ⟨rfl, rfl⟩
  have hid : cs.setIfInBounds o (.pointer (some ⟨b, o, none⟩)) = cs := by
   apply Array.ext_getElem?
   intro i
   by_cases hi : i = o
   ·subst hi; rw [hc1, h.at0, hp]
   ·rw [Array.getElem?_setIfInBounds_ne (by omega)]
  rw [hid]
  exact ⟨rfl, ⟨h.lo, h.blk, hp ▸ h.at0, h.at1, .inr rfl, h.own, h.ne⟩, Below.refl B _, rfl, fun k _ => rfl⟩
theorem byteCells_append (a b : List UInt8) : Lib.byteCells (a ++ b) = Lib.byteCells a ++ Lib.byteCells b := by simp [Lib.byteCells]
set_option maxHeartbeats 4000000 in
set_option maxRecDepth 100000 in
theorem bld_write {T : TypeId} {o B b : Nat} {cs : Array Value} {p v : Value} {bs : List UInt8} {w : World} (s : ByteArray) (h : BldAt T o B b cs p v bs w)
  (hlies : liesAt Try.prog Try.prog.depth T (cs.size / Try.prog.cellsOf T) o 127 1 = true) (hT : T ≠ 5) (hlen : bs.length + s.size ≤ 140737488355328) (hBw : B ≤ w.heap.size) :
  Calls Try.prog 87 #[.pointer (some ⟨b, o, none⟩), .string s] w fun e w' => e = .returned (.tuple #[.int .i64 s.size, .nilIface]) ∧
   ∃ v', BldAt T o B b ((cs.setIfInBounds o (.pointer (some ⟨b, o, none⟩))).setIfInBounds (o + 1) v') (.pointer (some ⟨b, o, none⟩)) v' (bs ++ s.data.toList) w' ∧ Below B w w' ∧
    (∀ k, k < w.heap.size → k ≠ b → some k ≠ v.ownBlock → w'.heap[k]? = w.heap[k]?) := by
 have hu := Try.underlying124
 have hu2 := Try.underlying127
 have hu3 := Try.underlying125
 have hu4 := Try.underlying9
 obtain ⟨i0, hi, hz0, hz1, hz2⟩ := info_parts (show (Try.prog.info? 5).map (fun i => (i.zero, i.size, i.bytes)) = some (some (.int .u8 0), 1, 1) by kernel_rfl)
 have hcon := bld_check h hlies
 have ho : o < cs.size := (Array.getElem?_eq_some_iff.1 h.at0).1
 have ho1 : o + 1 < cs.size := (Array.getElem?_eq_some_iff.1 h.at1).1
 generalize hcs : cs.setIfInBounds o (.pointer (some ⟨b, o, none⟩)) = cs1 at hcon ⊢
 have hs1 : cs1.size = cs.size := by rw [← hcs]; simp
 clear hcs
 go_enter Try.func87, Try.ntmps87
 go_wp2_with (go_at_call 123; refine hcon.mono ?_)
 rintro e w1 ⟨rfl, h1, hb1, hz, hk1⟩
 have c1 : w1.cell? ⟨b, o + 1, none⟩ = some v := (Lib.cell_of_heap h1.blk _).trans h1.at1
 have hcl : (Lib.byteCells bs).length = bs.length := Lib.byteCells_length bs
 have hown := h1.own
 go_wp2_with (at_builtin; refine Lib.wpList_append_own_string _ rfl _ _ 125 9 rfl B 5 i0 hu3 hu4 hi hz0 hz1 hz2 _ _ _ rfl hown s rfl ?c3 ?c4 ?c5 ?_)
 case c3 => unfold maxLen; omega
 case c4 => omega
 case c5 => have := hb1.size; omega
 intro v' w2 hown' hgrow _
 have hb2 : w2.heap[b]? = some (.cells cs1 T (0, 0)) := by
  rw [hgrow.block b h1.lt (fun e => h1.ne e.symm)]
  exact h1.blk
 have d1 : w2.cell? ⟨b, o + 1, none⟩ = some v := (Lib.cell_of_heap hb2 _).trans h1.at1
 have f1 : w2.frozen? ⟨b, o + 1, none⟩ = false := Lib.frozen_of_heap hb2 (o + 1)
 obtain ⟨ao, n', cap, rfl⟩ : ∃ ao n' cap, v' = .slice ao n' cap := by
  rcases hown'.2 with ⟨hv, _⟩ | ⟨g, cap, cur, hv, _⟩
  ·exact ⟨_, _, _, hv⟩
  ·exact ⟨_, _, _, hv⟩
 go_wp2
 go_ret2
 have hlen2 : (bs ++ s.data.toList).length = bs.length + s.size := by rw [List.length_append, Array.length_toList]; rfl
 have hcells : Lib.byteCells (bs ++ s.data.toList) = Lib.byteCells bs ++ Lib.strCells s := by rw [byteCells_append]; rfl
 have hne : (Value.slice ao n' cap).ownBlock ≠ some b := Lib.ownBlock_ne hown' hb2 hT
 refine ⟨rfl, _, ⟨h.lo, ?_, ?_, ?_, .inr rfl, ?_, hne⟩, (hb1.grown hgrow (by have := hb1.size; omega) (fun k hk => (hown.lt k hk).1)).setCell (p := ⟨b, o + 1, none⟩) h.lo _, ?_⟩
 ·simp [World.setCell, Array.getElem?_modify, hb2]
 ·rw [Array.getElem?_setIfInBounds_ne (by omega)]; exact h1.at0
 ·rw [Array.getElem?_setIfInBounds_self]; simp [hs1, ho1]
 ·rw [hlen2, hcells]
  exact hown'.kept (row := some b) ⟨rfl, rfl, rfl, by simp [World.setCell], fun k _ hk => Below.heap_setCell _ _ _ _ (fun e => hk (by simp [e]))⟩ (Or.inr hne)
 ·intro k hk hkb hkv
  rw [Below.heap_setCell _ _ _ _ hkb, hgrow.block k (by omega) hkv, hk1 k hkb]
theorem bld_freeze_old (w : World) (g k n : Nat) (h : k ≠ g) : (w.freeze ⟨g, 0, none⟩ n).heap[k]? = w.heap[k]? := by
 unfold World.freeze
 split
 ·rfl
 ·simp [Array.getElem?_modify, Ne.symm h]
theorem bld_unsafeNone (W : World) (q : Option Addr) : (Builtin.unsafeString_ #[165, 3] 9 #[.pointer q, .int .i64 0]).run Try.prog W = .ok (.string .empty) W := Lib.run_unsafeString_none W _ _ _ q
set_option maxHeartbeats 4000000 in
set_option maxRecDepth 100000 in
theorem bld_string {T : TypeId} {o B b : Nat} {cs : Array Value} {p v : Value} {bs : List UInt8} {w : World} (h : BldAt T o B b cs p v bs w) (hBw : B ≤ w.heap.size) :
  Calls Try.prog 89 #[.pointer (some ⟨b, o, none⟩)] w fun e w' => e = .returned (.string (toB bs)) ∧ Below B w w' ∧ (∀ k, k < w.heap.size → some k ≠ v.ownBlock → w'.heap[k]? = w.heap[k]?) := by
 have hu := Try.underlying124
 have hu2 := Try.underlying127
 have hu3 := Try.underlying125
 have hu4 := Try.underlying165
 have hlt := h.lt
 have hUS := bld_unsafeNone
 have mixed : Try.prog.follows .mixedOrders = true := by kernel_rfl
 rcases h.own.2 with ⟨hv, hz⟩ | ⟨g, cap, cur, hv, hbg, hg, hnc, hcm, hcs, htake⟩
 ·subst hv
  have hbs : bs = [] := List.length_eq_zero_iff.1 hz
  subst hbs
  have c1 : w.drew.cell? ⟨b, o + 1, none⟩ = some (.slice none 0 0) := (Lib.cell_of_heap (show w.drew.heap[b]? = some (.cells cs T (0, 0)) from h.blk) _).trans h.at1
  have hSD : (Builtin.unsafeSliceData_ #[125] 165 #[.slice none 0 0]).run Try.prog w.drew = .ok (.pointer none) w.drew := rfl
  clear h
  go_enter Try.func89, Try.ntmps89
  go_wp2
  go_region_o
  all_goals (go_wp2; go_ret; exact ⟨rfl, Below.drew (Below.refl B w), fun _ _ _ => rfl⟩)
 ·subst hv
  by_cases h0 : bs = []
  ·subst h0
   by_cases hc0 : cap = 0
   ·subst hc0
    have c1 : w.drew.cell? ⟨b, o + 1, none⟩ = some (.slice (some ⟨g, 0, none⟩) 0 0) := (Lib.cell_of_heap (show w.drew.heap[b]? = some (.cells cs T (0, 0)) from h.blk) _).trans h.at1
    have hSD : (Builtin.unsafeSliceData_ #[125] 165 #[.slice (some ⟨g, 0, none⟩) 0 0]).run Try.prog w.drew = .ok (.pointer (some ⟨w.drew.heap.size, 0, none⟩)) (w.drew.alloc (.view ⟨g, 0, none⟩ 5)) :=
     Lib.run_unsafeSliceData_zero w.drew _ _ 5 hu4 ⟨g, 0, none⟩ 0 (5, cur.size) (by have hg' : w.drew.heap[g]? = some (.cells cur 5 (0, 0)) := hg; simp [World.shape?, hg'])
    have c2 : (w.drew.alloc (.view ⟨g, 0, none⟩ 5)).cell? ⟨b, o + 1, none⟩ = some (.slice (some ⟨g, 0, none⟩) 0 0) := (Lib.cell_of_heap (show (w.drew.alloc (.view ⟨g, 0, none⟩ 5)).heap[b]? = some (.cells cs T (0, 0)) from (Lib.alloc_old w.drew _ b hlt).trans h.blk) _).trans h.at1
    have c3 : (w.alloc (.view ⟨g, 0, none⟩ 5)).drew.cell? ⟨b, o + 1, none⟩ = some (.slice (some ⟨g, 0, none⟩) 0 0) := c2
    have c0 : w.cell? ⟨b, o + 1, none⟩ = some (.slice (some ⟨g, 0, none⟩) 0 0) := c1
    clear h
    go_enter Try.func89, Try.ntmps89
    go_wp2
    go_region_o
    all_goals (go_wp2; go_ret; exact ⟨rfl, (Below.drew (Below.refl B w)).alloc hBw _, fun k hk _ => Lib.alloc_old w _ k hk⟩)
   ·have c1 : w.drew.cell? ⟨b, o + 1, none⟩ = some (.slice (some ⟨g, 0, none⟩) 0 cap) := (Lib.cell_of_heap (show w.drew.heap[b]? = some (.cells cs T (0, 0)) from h.blk) _).trans h.at1
    have hSD : (Builtin.unsafeSliceData_ #[125] 165 #[.slice (some ⟨g, 0, none⟩) 0 cap]).run Try.prog w.drew = .ok (.pointer (some ⟨g, 0, none⟩)) w.drew :=
     Lib.run_unsafeSliceData_row _ _ _ _ _ _ hc0
    clear h hc0
    go_enter Try.func89, Try.ntmps89
    go_wp2
    go_region_o
    all_goals (go_wp2; go_ret; exact ⟨rfl, Below.drew (Below.refl B w), fun _ _ _ => rfl⟩)
  ·have hl0 : bs.length ≠ 0 := by simpa using h0
   have c1 : w.drew.cell? ⟨b, o + 1, none⟩ = some (.slice (some ⟨g, 0, none⟩) bs.length cap) := (Lib.cell_of_heap (show w.drew.heap[b]? = some (.cells cs T (0, 0)) from h.blk) _).trans h.at1
   have hSD : (Builtin.unsafeSliceData_ #[125] 165 #[.slice (some ⟨g, 0, none⟩) bs.length cap]).run Try.prog w.drew = .ok (.pointer (some ⟨g, 0, none⟩)) w.drew :=
    Lib.run_unsafeSliceData_row _ _ _ _ _ _ (by omega)
   have hown := h.own
   have hUS2 : (Builtin.unsafeString_ #[165, 3] 9 #[.pointer (some ⟨g, 0, none⟩), .int .i64 bs.length]).run Try.prog w.drew = .ok (.string (toB bs)) (w.drew.freeze ⟨g, 0, none⟩ bs.length) := by
    refine Lib.run_unsafeString_row w.drew 165 3 9 5 hu4 (by kernel_rfl) g cur.size (by have hg' : w.drew.heap[g]? = some (.cells cur 5 (0, 0)) := hg; simp [World.shape?, hg']) bs h0 (by omega) (by unfold maxLen at hcm; omega) ?_
    intro j x hx
    have := hown.cells (g := g) rfl j (.int .u8 x.toNat) (by simp [Lib.byteCells, hx])
    exact this
   clear hUS
   go_enter Try.func89, Try.ntmps89
   go_wp2
   go_region_o
   all_goals (go_wp2; go_ret; refine ⟨rfl, Lib.below_freeze (Below.drew (Below.refl B w)) (p := ⟨g, 0, none⟩) hbg _, fun k _ hk => ?_⟩)
   all_goals exact bld_freeze_old w.drew g k bs.length (fun e => hk (by simp [Value.ownBlock, e]))
end Go.Proofs.Ytfiamddinkokbaa
end

section
set_option linter.unusedVariables false
set_option linter.unusedSimpArgs false
namespace Go.Proofs.Ytfiamddinkokbaa.F
open Go.RowKit Go.Shelf Go.Proofs.YtfiamddinkokbaaW.PrintWords
set_option linter.unusedVariables false
set_option linter.unusedSimpArgs false
def Keeps (T b : Nat) (w w' : World) : Prop := ∀ k cs t fr, w.heap[k]? = some (.cells cs t fr) → t ≠ T → k ≠ b → w'.heap[k]? = w.heap[k]?
theorem Keeps.refl (T b : Nat) (w : World) : Keeps T b w w := fun _ _ _ _ _ _ _ => rfl
theorem Keeps.trans {T b : Nat} {w w1 w2 : World} (h : Keeps T b w w1) (g : Keeps T b w1 w2) : Keeps T b w w2 := fun k cs t fr hk ht hb => by
 have h1 := h k cs t fr hk ht hb
 rw [g k cs t fr (h1.trans hk) ht hb, h1]
theorem Keeps.below {T b : Nat} {w w' : World} (h : Below w.heap.size w w') : Keeps T b w w' := fun k cs t fr hk _ _ => h.block k (Array.getElem?_eq_some_iff.1 hk).1
theorem Keeps.grown {T b : Nat} {w w1 w' : World} {v : Value} (h : Keeps T b w w1) (hg : w1.grownBy w' v.ownBlock) (hv : ∀ k, v.ownBlock = some k → ∃ cells, w1.heap[k]? = some (.cells cells T (0, 0))) : Keeps T b w w' := fun k cs t fr hk ht hb => by
 have h1 := h k cs t fr hk ht hb
 have h2 := h1.trans hk
 rw [hg.block k (Array.getElem?_eq_some_iff.1 h2).1 (fun e => ?_), h1]
 obtain ⟨cells, hc⟩ := hv k e.symm
 rw [h2] at hc
 injection hc with hc
 injection hc with _ hc _
 exact ht hc
theorem Keeps.set {T b : Nat} {w w' : World} (h : Keeps T b w w') (i : Nat) (v : Value) : Keeps T b w (w'.setCell ⟨b, i, none⟩ v) := fun k cs t fr hk ht hb => by
 rw [Below.heap_setCell _ _ _ _ hb]; exact h k cs t fr hk ht hb
theorem Keeps.drewN {T b : Nat} {w w' : World} (h : Keeps T b w w') (n : Nat) : Keeps T b w (w'.drewN n) := fun k cs t fr hk ht hb => (h k cs t fr hk ht hb)
theorem Keeps.alloc {T b : Nat} {w w' : World} (h : Keeps T b w w') (o : Obj) : Keeps T b w (w'.alloc o) := h.trans (Keeps.below (below_alloc (Below.refl _ _) o))
theorem Keeps.cell {T b : Nat} {w w' : World} (h : Keeps T b w w') {k : Nat} {cs : Array Value} {t : TypeId} (hk : w.heap[k]? = some (.cells cs t (0, 0))) (ht : t ≠ T) (hb : k ≠ b) : w'.heap[k]? = some (.cells cs t (0, 0)) :=
 (h k cs t (0, 0) hk ht hb).trans hk
end Go.Proofs.Ytfiamddinkokbaa.F
end

section
set_option linter.unusedVariables false
set_option linter.unusedSimpArgs false
namespace Go.Proofs.Ytfiamddinkokbaa.F
open Go.RowKit Go.Shelf Go.Proofs.YtfiamddinkokbaaW.PrintWords
set_option linter.unusedVariables false
set_option linter.unusedSimpArgs false
abbrev SP := S196
def Fin (B f : Nat) (x y : Value) (l : List SP) (w : World) : Prop :=
 ∃ v, B ≤ f ∧ w.heap[f]? = some (.cells #[x, y, v] 190 (0, 0)) ∧ Kd.R k196 196 w B (fun k => k ≠ f) v l
theorem Fin.below {B f : Nat} {x y : Value} {l : List SP} {w w' : World} (h : Fin B f x y l w) (hb : Below w.heap.size w w') : Fin B f x y l w' := by
 obtain ⟨v, h0, h1, h2⟩ := h
 exact ⟨v, h0, (hb.block f (Array.getElem?_eq_some_iff.1 h1).1).trans h1, Kd.R_below h2 hb⟩
theorem Fin.lo {B f : Nat} {x y : Value} {l : List SP} {w : World} (h : Fin B f x y l w) : B ≤ f := by obtain ⟨v, h, _⟩ := h; exact h
theorem Fin.lt {B f : Nat} {x y : Value} {l : List SP} {w : World} (h : Fin B f x y l w) : f < w.heap.size := by obtain ⟨v, _, h, _⟩ := h; exact (Array.getElem?_eq_some_iff.1 h).1
theorem Fin.c0 {B f : Nat} {x y : Value} {l : List SP} {w : World} (h : Fin B f x y l w) : w.cell? ⟨f, 0, none⟩ = some x := by obtain ⟨v, _, h, _⟩ := h; exact (blk_cell h 0).trans rfl
theorem Fin.c1 {B f : Nat} {x y : Value} {l : List SP} {w : World} (h : Fin B f x y l w) : w.cell? ⟨f, 1, none⟩ = some y := by obtain ⟨v, _, h, _⟩ := h; exact (blk_cell h 1).trans rfl
def diagP (a b : Int) (n : Nat) : List SP := (List.range n).map fun (i : Nat) => (⟨a + (i : Int), b + (i : Int)⟩ : SP)
theorem diagP_succ (a b : Int) (n : Nat) : diagP a b (n + 1) = diagP a b n ++ [⟨a + (n : Int), b + (n : Int)⟩] := by simp [diagP, List.range_succ]
theorem diagP_length (a b : Int) (n : Nat) : (diagP a b n).length = n := by simp [diagP]
theorem fin_info : (Try.prog.info? 196).map (fun i => (i.zero, i.size, i.bytes)) = some (some (.agg #[.int .i64 0, .int .i64 0]), 2, 16) := by kernel_rfl
theorem fin_put {B f : Nat} {x y v v1 : Value} {l l1 : List SP} {W w1 : World} (h0 : B ≤ f) (h1 : W.heap[f]? = some (.cells #[x, y, v] 190 (0, 0))) (hR : Kd.R k196 196 W B (fun k => k ≠ f) v l)
  (hR1 : Kd.R k196 196 w1 B (fun k => k ≠ f) v1 l1) (hg : W.grownBy w1 v.ownBlock) : w1.heap[f]? = some (.cells #[x, y, v] 190 (0, 0)) ∧ Fin B f x y l1 (w1.setCell ⟨f, 2, none⟩ v1) := by
 have hf : w1.heap[f]? = some (.cells #[x, y, v] 190 (0, 0)) := (hg.block f (Array.getElem?_eq_some_iff.1 h1).1 (fun e => hR.1 f e.symm rfl)).trans h1
 refine ⟨hf, v1, h0, ?_, ?_⟩
 ·simp [World.setCell, Array.getElem?_modify, hf]
 ·exact Kd.R_step hR1 (fun k hk _ => Below.heap_setCell _ _ _ _ hk)
set_option maxHeartbeats 4000000 in
set_option maxRecDepth 100000 in
theorem same_calls {B f : Nat} {x y : Value} {l : List SP} {w : World} (a b : Int) (n : Nat) (h : Fin B f x y l w) (ha0 : 0 ≤ a) (ha1 : a ≤ 8000000000) (hb0 : 0 ≤ b) (hb1 : b ≤ 8000000000) (hn : n ≤ 8000000000) (hl : l.length ≤ 8000000000) (hBw : B ≤ w.heap.size) :
  Calls Try.prog 166 #[.pointer (some ⟨f, 0, none⟩), .int .i64 a, .int .i64 b, .int .i64 n] w fun e w' => e = .returned (.tuple #[]) ∧ Fin B f x y (l ++ diagP a b n) w' ∧ Below B w w' ∧ Keeps 196 f w w' := by
 have HF := Aside0.mk h
 have HBw := Aside0.mk hBw
 clear h hBw
 go_enter Try.func166, Try.ntmps166
 go_wp2
 go_loopg [10] n (fun gg s10 wr => ∃ kk : Nat, kk ≤ n ∧ n - kk ≤ gg ∧ s10 = .int .i64 kk ∧ Aside0 (Fin B f x y (l ++ diagP a b kk) wr) ∧ Aside0 (Below B w wr) ∧ Aside0 (Keeps 196 f w wr))
 case atStart => exact ⟨0, Nat.zero_le _, by omega, rfl, ⟨by simpa [diagP] using HF.out⟩, ⟨Below.refl _ _⟩, ⟨Keeps.refl _ _ _⟩⟩
 case round =>
  clear HF
  obtain ⟨kk, hkk, hg, rfl, HF, HB, HK⟩ := hrel
  by_cases hlt : kk < n
  ·have hltz : (kk : Int) < (n : Int) := by omega
   have hlen : (l ++ diagP a b kk).length ≤ 16000000000 := by rw [List.length_append, diagP_length]; omega
   obtain ⟨v, h0, h1, hR⟩ := HF.out
   have HR := Aside0.mk hR
   have c2 := (blk_cell h1 2).trans (rfl : _ = some v)
   have HS := Aside0.mk h1
   have HF0 := Aside0.mk h0
   have HBr := Aside0.mk (Nat.le_trans HBw.out HB.out.size)
   have a0 : 0 ≤ (kk : Int) := by omega
   have HFr : Aside0 (∀ k, wr.heap.size ≤ k → k ≠ f) := ⟨fun k hk e => by have := (Array.getElem?_eq_some_iff.1 HS.out).1; omega⟩
   clear hR h1 HF
   go_wp2_with (first | (at_builtin; refine Kd.R_append k196 (w0 := w) B rfl (.tmp 17) (.tmp 25) 77 196 (.agg #[.int .i64 0, .int .i64 0]) 16 rfl Try.underlying77 fin_info rfl (by decide) (by omega) v (l ++ diagP a b kk) ⟨a + (kk : Int), b + (kk : Int)⟩ [.int .i64 (a + (kk : Int)), .int .i64 (b + (kk : Int))] (fun k => k ≠ f) (fun _ => False) rfl rfl (k196_mkM _ _ _ _) (fun _ hk => hk.elim) HFr.out HR.out HB.out HBr.out (by omega) ?_; intro v1 w1 ho hb hg1 hat; obtain ⟨Av, cv, rfl⟩ := Kd.R_slice ho; obtain ⟨hf1, hfin⟩ := fin_put HF0.out HS.out HR.out ho hg1; have f2 := Lib.frozen_of_heap hf1 2; have d2 := (blk_cell hf1 2).trans (rfl : _ = some v); have HF2 := Aside0.mk hfin; have HB2 := Aside0.mk hb; have HK2 := Aside0.mk (HK.out.grown hg1 (Kd.R_typed HR.out)); clear ho hb hg1 hat hfin hf1))
   go_roundg (n - (kk + 1))
   case measure => omega
   case rel =>
    refine ⟨kk + 1, by omega, by omega, by go_num, ⟨?_⟩, ⟨HB2.out.setCell (p := ⟨f, 2, none⟩) HF0.out _⟩, ⟨HK2.out.set 2 _⟩⟩
    rw [diagP_succ, ← List.append_assoc, show l.length + ((diagP a b kk).length + 1) = (l ++ diagP a b kk ++ [(⟨a + (kk : Int), b + (kk : Int)⟩ : SP)]).length by simp only [List.length_append, List.length_singleton, Nat.add_assoc]]; exact HF2.out
  ·obtain rfl : kk = n := by omega
   have q1 : ((kk : Int) < (kk : Int)) = False := by simp
   go_wp2
   go_end0
   exact ⟨rfl, HF.out, HB.out, HK.out⟩
end Go.Proofs.Ytfiamddinkokbaa.F
end

section
set_option linter.unusedVariables false
set_option linter.unusedSimpArgs false
namespace Go.Proofs.Ytfiamddinkokbaa.F
open Go.RowKit Go.Proofs.YtfiamddinkokbaaW.PrintWords Go.Proofs.YtfiamddinkokbaaW.PrintLast Go.Proofs.YtfiamddinkokbaaW.PrintMore
attribute [local go_sem] max2_int min2_int max_two min_two max_three min_three max_four min_four
set_option linter.unusedVariables false
set_option linter.unusedSimpArgs false
def lcs_run_begin.f (l0_0 : List Int) (a0_1 : Int) (a1 : Int) (a2 : Int) : Option (Int) := if a1 = (wrap64 (-a2)) then (if 0 ≤ (wrap64 ((wrap64 (a0_1 + a1)) + 1)) then (if (wrap64 ((wrap64 (a0_1 + a1)) + 1)) < (l0_0.length : Int) then (some (rd l0_0 (wrap64 ((wrap64 (a0_1 + a1)) + 1)))) else (none)) else (none)) else (if a1 = a2 then (if 0 ≤ (wrap64 ((wrap64 (a0_1 + a1)) - 1)) then (if (wrap64 ((wrap64 (a0_1 + a1)) - 1)) < (l0_0.length : Int) then (some (wrap64 ((rd l0_0 (wrap64 ((wrap64 (a0_1 + a1)) - 1))) + 1))) else (none)) else (none)) else (if 0 ≤ (wrap64 ((wrap64 (a0_1 + a1)) - 1)) then (if (wrap64 ((wrap64 (a0_1 + a1)) - 1)) < (l0_0.length : Int) then (if 0 ≤ (wrap64 ((wrap64 (a0_1 + a1)) + 1)) then (if (wrap64 ((wrap64 (a0_1 + a1)) + 1)) < (l0_0.length : Int) then (if (rd l0_0 (wrap64 ((wrap64 (a0_1 + a1)) - 1))) < (rd l0_0 (wrap64 ((wrap64 (a0_1 + a1)) + 1))) then (some (rd l0_0 (wrap64 ((wrap64 (a0_1 + a1)) + 1)))) else (some (wrap64 ((rd l0_0 (wrap64 ((wrap64 (a0_1 + a1)) - 1))) + 1)))) else (none)) else (none)) else (none)) else (none)))
set_option maxHeartbeats 8000000 in
set_option maxRecDepth 100000 in
theorem lcs_run_begin.calls (A0_0 : Option Addr) (c0_0 : Nat) (l0_0 : List Int) (a0_1 : Int) (a1 : Int) (a2 : Int) (r : Int) (w : World) (hr0_0 : Kd.C (Kd.int .i64) w A0_0 l0_0.length l0_0) (hc0_0 : l0_0.length ≤ c0_0) (h : lcs_run_begin.f l0_0 a0_1 a1 a2 = some r) :
  Calls Try.prog 173 #[.agg #[.slice A0_0 l0_0.length c0_0, .int .i64 a0_1], .int .i64 a1, .int .i64 a2] w fun e w' => e = .returned (.int .i64 r) ∧ Below w.heap.size w w' := by
 have hu213 := Try.underlying213
 have HR0_0 := Aside0.mk hr0_0
 have HC0_0 := Aside0.mk hc0_0
 clear hr0_0 hc0_0
 have HB := Aside0.mk (Below.refl w.heap.size w)
 have H : (if a1 = (wrap64 (-a2)) then (if 0 ≤ (wrap64 ((wrap64 (a0_1 + a1)) + 1)) then (if (wrap64 ((wrap64 (a0_1 + a1)) + 1)) < (l0_0.length : Int) then (some (rd l0_0 (wrap64 ((wrap64 (a0_1 + a1)) + 1)))) else (none)) else (none)) else (if a1 = a2 then (if 0 ≤ (wrap64 ((wrap64 (a0_1 + a1)) - 1)) then (if (wrap64 ((wrap64 (a0_1 + a1)) - 1)) < (l0_0.length : Int) then (some (wrap64 ((rd l0_0 (wrap64 ((wrap64 (a0_1 + a1)) - 1))) + 1))) else (none)) else (none)) else (if 0 ≤ (wrap64 ((wrap64 (a0_1 + a1)) - 1)) then (if (wrap64 ((wrap64 (a0_1 + a1)) - 1)) < (l0_0.length : Int) then (if 0 ≤ (wrap64 ((wrap64 (a0_1 + a1)) + 1)) then (if (wrap64 ((wrap64 (a0_1 + a1)) + 1)) < (l0_0.length : Int) then (if (rd l0_0 (wrap64 ((wrap64 (a0_1 + a1)) - 1))) < (rd l0_0 (wrap64 ((wrap64 (a0_1 + a1)) + 1))) then (some (rd l0_0 (wrap64 ((wrap64 (a0_1 + a1)) + 1)))) else (some (wrap64 ((rd l0_0 (wrap64 ((wrap64 (a0_1 + a1)) - 1))) + 1)))) else (none)) else (none)) else (none)) else (none)))) = some r := h
 clear h
 by_cases c4 : a1 = (wrap64 (-a2))
 ·rw [if_pos c4] at H
  have c4b0 : (a1 == (wrap64 (-a2))) = true := beq_iff_eq.mpr c4
  have c4b1 : (a1 != (wrap64 (-a2))) = false := bne_eq_false_iff_eq.mpr c4
  clear c4
  obtain ⟨ji5, hji5⟩ : ∃ j_ : Int, (wrap64 ((wrap64 (a0_1 + a1)) + 1)) = j_ := ⟨_, rfl⟩
  replace H : (if 0 ≤ (ji5) then (if (ji5) < (l0_0.length : Int) then (some (rd l0_0 (ji5))) else (none)) else (none)) = some r := by first | (rw [hji5] at H; exact H) | (simp only [hji5] at H ⊢; exact H)
  have hji5w : (IntKind.i64.wrap ((wrap64 (a0_1 + a1)) + 1)) = ji5 := (i64_w _).trans hji5
  by_cases c6 : 0 ≤ (ji5)
  ·rw [if_pos c6] at H
   have c6b0 : decide (0 ≤ (ji5)) = true := decide_eq_true c6
   clear c6
   by_cases c7 : (ji5) < (l0_0.length : Int)
   ·rw [if_pos c7] at H
    have c7b0 : decide ((ji5) < (l0_0.length : Int)) = true := decide_eq_true c7
    clear c7
    obtain rfl := Option.some.inj H
    go_enter Try.func173, Try.ntmps173
    go_wp2_with (first | ((with_reducible refine gate_dst (N := 3) rfl ?_); refine box_event ?hg (N := 3) ?hd (cs := #[.slice A0_0 l0_0.length c0_0, .int .i64 a0_1]) (t := 213) ?hr ?_; (case hd => rfl); (case hg => rfl); (case hr => first | (go_simp; done) | (go_simp; rfl)); intro gb518 hg w8 hbox hb; have n0_ := Aside0.mk (below_step (by repeat (first | (with_reducible first | exact HB.out | apply below_alloc | apply pw_below_drewN | apply below_drew1) | exact HB.out)) hb); have n1_ := Aside0.mk (hbox); have n2_ := Aside0.mk ((by rw [hg]; exact (below_size (by repeat (first | (with_reducible first | exact HB.out | apply below_alloc | apply pw_below_drewN | apply below_drew1) | exact HB.out))) : w.heap.size ≤ gb518)); have n3_ := Aside0.mk ((by rw [hg]; exact (below_size (by repeat (first | (with_reducible first | exact HB.out | apply below_alloc | apply pw_below_drewN | apply below_drew1) | exact HB.out))) : w.heap.size ≤ gb518)); clear HB; have HB := n0_; have BK518 := n1_; have GW518 := n2_; have GE518 := n3_; clear n0_ n1_ n2_ n3_; clear hb hbox hg; have hcz9_0 : w8.cell? ⟨gb518, 0, none⟩ = some (.slice A0_0 l0_0.length c0_0) := (blk_cell BK518.out 0).trans rfl; have hcz9_1 : w8.cell? ⟨gb518, 1, none⟩ = some (.int .i64 a0_1) := (blk_cell BK518.out 1).trans rfl; have hfz9_0 := blk_frozen BK518.out 0; have hfz9_1 := blk_frozen BK518.out 1; have p519 : 0 ≤ ((ji5) : Int) := of_decide_eq_true (by first | (with_reducible assumption) | assumption); have q519 : (ji5) < (l0_0.length : Int) := of_decide_eq_true (by first | (with_reducible assumption) | assumption); obtain ⟨ad519, e519, hx519_0⟩ := Kd.at_int HR0_0.out (ji5) p519 q519; cases e519; replace hx519_0 := (HB.out.cell (World.block_lt_of_cell? w _ hx519_0)).trans hx519_0; replace p519 := eq_true p519; replace q519 := eq_true q519))
    repeat (go_quiet (first | ((with_reducible refine gate_dst (N := 3) rfl ?_); refine box_event ?hg (N := 3) ?hd (cs := #[.slice A0_0 l0_0.length c0_0, .int .i64 a0_1]) (t := 213) ?hr ?_; (case hd => rfl); (case hg => rfl); (case hr => first | (go_simp; done) | (go_simp; rfl)); intro gb518 hg w8 hbox hb; have n0_ := Aside0.mk (below_step (by repeat (first | (with_reducible first | exact HB.out | apply below_alloc | apply pw_below_drewN | apply below_drew1) | exact HB.out)) hb); have n1_ := Aside0.mk (hbox); have n2_ := Aside0.mk ((by rw [hg]; exact (below_size (by repeat (first | (with_reducible first | exact HB.out | apply below_alloc | apply pw_below_drewN | apply below_drew1) | exact HB.out))) : w.heap.size ≤ gb518)); have n3_ := Aside0.mk ((by rw [hg]; exact (below_size (by repeat (first | (with_reducible first | exact HB.out | apply below_alloc | apply pw_below_drewN | apply below_drew1) | exact HB.out))) : w.heap.size ≤ gb518)); clear HB; have HB := n0_; have BK518 := n1_; have GW518 := n2_; have GE518 := n3_; clear n0_ n1_ n2_ n3_; clear hb hbox hg; have hcz9_0 : w8.cell? ⟨gb518, 0, none⟩ = some (.slice A0_0 l0_0.length c0_0) := (blk_cell BK518.out 0).trans rfl; have hcz9_1 : w8.cell? ⟨gb518, 1, none⟩ = some (.int .i64 a0_1) := (blk_cell BK518.out 1).trans rfl; have hfz9_0 := blk_frozen BK518.out 0; have hfz9_1 := blk_frozen BK518.out 1; have p519 : 0 ≤ ((ji5) : Int) := of_decide_eq_true (by first | (with_reducible assumption) | assumption); have q519 : (ji5) < (l0_0.length : Int) := of_decide_eq_true (by first | (with_reducible assumption) | assumption); obtain ⟨ad519, e519, hx519_0⟩ := Kd.at_int HR0_0.out (ji5) p519 q519; cases e519; replace hx519_0 := (HB.out.cell (World.block_lt_of_cell? w _ hx519_0)).trans hx519_0; replace p519 := eq_true p519; replace q519 := eq_true q519)); try go_wp2_with (first | ((with_reducible refine gate_dst (N := 3) rfl ?_); refine box_event ?hg (N := 3) ?hd (cs := #[.slice A0_0 l0_0.length c0_0, .int .i64 a0_1]) (t := 213) ?hr ?_; (case hd => rfl); (case hg => rfl); (case hr => first | (go_simp; done) | (go_simp; rfl)); intro gb518 hg w8 hbox hb; have n0_ := Aside0.mk (below_step (by repeat (first | (with_reducible first | exact HB.out | apply below_alloc | apply pw_below_drewN | apply below_drew1) | exact HB.out)) hb); have n1_ := Aside0.mk (hbox); have n2_ := Aside0.mk ((by rw [hg]; exact (below_size (by repeat (first | (with_reducible first | exact HB.out | apply below_alloc | apply pw_below_drewN | apply below_drew1) | exact HB.out))) : w.heap.size ≤ gb518)); have n3_ := Aside0.mk ((by rw [hg]; exact (below_size (by repeat (first | (with_reducible first | exact HB.out | apply below_alloc | apply pw_below_drewN | apply below_drew1) | exact HB.out))) : w.heap.size ≤ gb518)); clear HB; have HB := n0_; have BK518 := n1_; have GW518 := n2_; have GE518 := n3_; clear n0_ n1_ n2_ n3_; clear hb hbox hg; have hcz9_0 : w8.cell? ⟨gb518, 0, none⟩ = some (.slice A0_0 l0_0.length c0_0) := (blk_cell BK518.out 0).trans rfl; have hcz9_1 : w8.cell? ⟨gb518, 1, none⟩ = some (.int .i64 a0_1) := (blk_cell BK518.out 1).trans rfl; have hfz9_0 := blk_frozen BK518.out 0; have hfz9_1 := blk_frozen BK518.out 1; have p519 : 0 ≤ ((ji5) : Int) := of_decide_eq_true (by first | (with_reducible assumption) | assumption); have q519 : (ji5) < (l0_0.length : Int) := of_decide_eq_true (by first | (with_reducible assumption) | assumption); obtain ⟨ad519, e519, hx519_0⟩ := Kd.at_int HR0_0.out (ji5) p519 q519; cases e519; replace hx519_0 := (HB.out.cell (World.block_lt_of_cell? w _ hx519_0)).trans hx519_0; replace p519 := eq_true p519; replace q519 := eq_true q519)))
    go_ret
    exact ⟨by first | rfl | (simp [errW_none, errW_some] <;> rfl) | (simp only [← hji5]; first | rfl | (simp [errW_none, errW_some] <;> rfl)) | (simp [*, errW_none, errW_some] <;> rfl), by repeat (first | (with_reducible first | exact HB.out | apply below_alloc | apply pw_below_drewN | apply below_drew1 | refine below_set ?_ GE518.out) | exact HB.out)⟩
   ·rw [if_neg c7] at H
    exact absurd H (by simp)
  ·rw [if_neg c6] at H
   exact absurd H (by simp)
 ·rw [if_neg c4] at H
  have c4b0 : (a1 == (wrap64 (-a2))) = false := beq_eq_false_iff_ne.mpr c4
  have c4b1 : (a1 != (wrap64 (-a2))) = true := bne_iff_ne.mpr c4
  by_cases c10 : a1 = a2
  ·rw [if_pos c10] at H
   have c10b0 : (a1 == a2) = true := beq_iff_eq.mpr c10
   have c10b1 : (a1 != a2) = false := bne_eq_false_iff_eq.mpr c10
   clear c10
   obtain ⟨ji11, hji11⟩ : ∃ j_ : Int, (wrap64 ((wrap64 (a0_1 + a1)) - 1)) = j_ := ⟨_, rfl⟩
   replace H : (if 0 ≤ (ji11) then (if (ji11) < (l0_0.length : Int) then (some (wrap64 ((rd l0_0 (ji11)) + 1))) else (none)) else (none)) = some r := by first | (rw [hji11] at H; exact H) | (simp only [hji11] at H ⊢; exact H)
   have hji11w : (IntKind.i64.wrap ((wrap64 (a0_1 + a1)) - 1)) = ji11 := (i64_w _).trans hji11
   by_cases c12 : 0 ≤ (ji11)
   ·rw [if_pos c12] at H
    have c12b0 : decide (0 ≤ (ji11)) = true := decide_eq_true c12
    clear c12
    by_cases c13 : (ji11) < (l0_0.length : Int)
    ·rw [if_pos c13] at H
     have c13b0 : decide ((ji11) < (l0_0.length : Int)) = true := decide_eq_true c13
     clear c13
     obtain rfl := Option.some.inj H
     go_enter Try.func173, Try.ntmps173
     go_wp2_with (first | ((with_reducible refine gate_dst (N := 3) rfl ?_); refine box_event ?hg (N := 3) ?hd (cs := #[.slice A0_0 l0_0.length c0_0, .int .i64 a0_1]) (t := 213) ?hr ?_; (case hd => rfl); (case hg => rfl); (case hr => first | (go_simp; done) | (go_simp; rfl)); intro gb518 hg w14 hbox hb; have n0_ := Aside0.mk (below_step (by repeat (first | (with_reducible first | exact HB.out | apply below_alloc | apply pw_below_drewN | apply below_drew1) | exact HB.out)) hb); have n1_ := Aside0.mk (hbox); have n2_ := Aside0.mk ((by rw [hg]; exact (below_size (by repeat (first | (with_reducible first | exact HB.out | apply below_alloc | apply pw_below_drewN | apply below_drew1) | exact HB.out))) : w.heap.size ≤ gb518)); have n3_ := Aside0.mk ((by rw [hg]; exact (below_size (by repeat (first | (with_reducible first | exact HB.out | apply below_alloc | apply pw_below_drewN | apply below_drew1) | exact HB.out))) : w.heap.size ≤ gb518)); clear HB; have HB := n0_; have BK518 := n1_; have GW518 := n2_; have GE518 := n3_; clear n0_ n1_ n2_ n3_; clear hb hbox hg; have hcz15_0 : w14.cell? ⟨gb518, 0, none⟩ = some (.slice A0_0 l0_0.length c0_0) := (blk_cell BK518.out 0).trans rfl; have hcz15_1 : w14.cell? ⟨gb518, 1, none⟩ = some (.int .i64 a0_1) := (blk_cell BK518.out 1).trans rfl; have hfz15_0 := blk_frozen BK518.out 0; have hfz15_1 := blk_frozen BK518.out 1; have p520 : 0 ≤ ((ji11) : Int) := of_decide_eq_true (by first | (with_reducible assumption) | assumption); have q520 : (ji11) < (l0_0.length : Int) := of_decide_eq_true (by first | (with_reducible assumption) | assumption); obtain ⟨ad520, e520, hx520_0⟩ := Kd.at_int HR0_0.out (ji11) p520 q520; cases e520; replace hx520_0 := (HB.out.cell (World.block_lt_of_cell? w _ hx520_0)).trans hx520_0; replace p520 := eq_true p520; replace q520 := eq_true q520))
     repeat (go_quiet (first | ((with_reducible refine gate_dst (N := 3) rfl ?_); refine box_event ?hg (N := 3) ?hd (cs := #[.slice A0_0 l0_0.length c0_0, .int .i64 a0_1]) (t := 213) ?hr ?_; (case hd => rfl); (case hg => rfl); (case hr => first | (go_simp; done) | (go_simp; rfl)); intro gb518 hg w14 hbox hb; have n0_ := Aside0.mk (below_step (by repeat (first | (with_reducible first | exact HB.out | apply below_alloc | apply pw_below_drewN | apply below_drew1) | exact HB.out)) hb); have n1_ := Aside0.mk (hbox); have n2_ := Aside0.mk ((by rw [hg]; exact (below_size (by repeat (first | (with_reducible first | exact HB.out | apply below_alloc | apply pw_below_drewN | apply below_drew1) | exact HB.out))) : w.heap.size ≤ gb518)); have n3_ := Aside0.mk ((by rw [hg]; exact (below_size (by repeat (first | (with_reducible first | exact HB.out | apply below_alloc | apply pw_below_drewN | apply below_drew1) | exact HB.out))) : w.heap.size ≤ gb518)); clear HB; have HB := n0_; have BK518 := n1_; have GW518 := n2_; have GE518 := n3_; clear n0_ n1_ n2_ n3_; clear hb hbox hg; have hcz15_0 : w14.cell? ⟨gb518, 0, none⟩ = some (.slice A0_0 l0_0.length c0_0) := (blk_cell BK518.out 0).trans rfl; have hcz15_1 : w14.cell? ⟨gb518, 1, none⟩ = some (.int .i64 a0_1) := (blk_cell BK518.out 1).trans rfl; have hfz15_0 := blk_frozen BK518.out 0; have hfz15_1 := blk_frozen BK518.out 1; have p520 : 0 ≤ ((ji11) : Int) := of_decide_eq_true (by first | (with_reducible assumption) | assumption); have q520 : (ji11) < (l0_0.length : Int) := of_decide_eq_true (by first | (with_reducible assumption) | assumption); obtain ⟨ad520, e520, hx520_0⟩ := Kd.at_int HR0_0.out (ji11) p520 q520; cases e520; replace hx520_0 := (HB.out.cell (World.block_lt_of_cell? w _ hx520_0)).trans hx520_0; replace p520 := eq_true p520; replace q520 := eq_true q520)); try go_wp2_with (first | ((with_reducible refine gate_dst (N := 3) rfl ?_); refine box_event ?hg (N := 3) ?hd (cs := #[.slice A0_0 l0_0.length c0_0, .int .i64 a0_1]) (t := 213) ?hr ?_; (case hd => rfl); (case hg => rfl); (case hr => first | (go_simp; done) | (go_simp; rfl)); intro gb518 hg w14 hbox hb; have n0_ := Aside0.mk (below_step (by repeat (first | (with_reducible first | exact HB.out | apply below_alloc | apply pw_below_drewN | apply below_drew1) | exact HB.out)) hb); have n1_ := Aside0.mk (hbox); have n2_ := Aside0.mk ((by rw [hg]; exact (below_size (by repeat (first | (with_reducible first | exact HB.out | apply below_alloc | apply pw_below_drewN | apply below_drew1) | exact HB.out))) : w.heap.size ≤ gb518)); have n3_ := Aside0.mk ((by rw [hg]; exact (below_size (by repeat (first | (with_reducible first | exact HB.out | apply below_alloc | apply pw_below_drewN | apply below_drew1) | exact HB.out))) : w.heap.size ≤ gb518)); clear HB; have HB := n0_; have BK518 := n1_; have GW518 := n2_; have GE518 := n3_; clear n0_ n1_ n2_ n3_; clear hb hbox hg; have hcz15_0 : w14.cell? ⟨gb518, 0, none⟩ = some (.slice A0_0 l0_0.length c0_0) := (blk_cell BK518.out 0).trans rfl; have hcz15_1 : w14.cell? ⟨gb518, 1, none⟩ = some (.int .i64 a0_1) := (blk_cell BK518.out 1).trans rfl; have hfz15_0 := blk_frozen BK518.out 0; have hfz15_1 := blk_frozen BK518.out 1; have p520 : 0 ≤ ((ji11) : Int) := of_decide_eq_true (by first | (with_reducible assumption) | assumption); have q520 : (ji11) < (l0_0.length : Int) := of_decide_eq_true (by first | (with_reducible assumption) | assumption); obtain ⟨ad520, e520, hx520_0⟩ := Kd.at_int HR0_0.out (ji11) p520 q520; cases e520; replace hx520_0 := (HB.out.cell (World.block_lt_of_cell? w _ hx520_0)).trans hx520_0; replace p520 := eq_true p520; replace q520 := eq_true q520)))
     go_ret
     exact ⟨by first | rfl | (simp [errW_none, errW_some] <;> rfl) | (simp only [← hji11]; first | rfl | (simp [errW_none, errW_some] <;> rfl)) | (simp [*, errW_none, errW_some] <;> rfl), by repeat (first | (with_reducible first | exact HB.out | apply below_alloc | apply pw_below_drewN | apply below_drew1 | refine below_set ?_ GE518.out) | exact HB.out)⟩
    ·rw [if_neg c13] at H
     exact absurd H (by simp)
   ·rw [if_neg c12] at H
    exact absurd H (by simp)
  ·rw [if_neg c10] at H
   have c10b0 : (a1 == a2) = false := beq_eq_false_iff_ne.mpr c10
   have c10b1 : (a1 != a2) = true := bne_iff_ne.mpr c10
   obtain ⟨ji16, hji16⟩ : ∃ j_ : Int, (wrap64 ((wrap64 (a0_1 + a1)) - 1)) = j_ := ⟨_, rfl⟩
   replace H : (if 0 ≤ (ji16) then (if (ji16) < (l0_0.length : Int) then (if 0 ≤ (wrap64 ((wrap64 (a0_1 + a1)) + 1)) then (if (wrap64 ((wrap64 (a0_1 + a1)) + 1)) < (l0_0.length : Int) then (if (rd l0_0 (ji16)) < (rd l0_0 (wrap64 ((wrap64 (a0_1 + a1)) + 1))) then (some (rd l0_0 (wrap64 ((wrap64 (a0_1 + a1)) + 1)))) else (some (wrap64 ((rd l0_0 (ji16)) + 1)))) else (none)) else (none)) else (none)) else (none)) = some r := by first | (rw [hji16] at H; exact H) | (simp only [hji16] at H ⊢; exact H)
   have hji16w : (IntKind.i64.wrap ((wrap64 (a0_1 + a1)) - 1)) = ji16 := (i64_w _).trans hji16
   by_cases c17 : 0 ≤ (ji16)
   ·rw [if_pos c17] at H
    have c17b0 : decide (0 ≤ (ji16)) = true := decide_eq_true c17
    clear c17
    by_cases c18 : (ji16) < (l0_0.length : Int)
    ·rw [if_pos c18] at H
     have c18b0 : decide ((ji16) < (l0_0.length : Int)) = true := decide_eq_true c18
     clear c18
     obtain ⟨ji19, hji19⟩ : ∃ j_ : Int, (wrap64 ((wrap64 (a0_1 + a1)) + 1)) = j_ := ⟨_, rfl⟩
     replace H : (if 0 ≤ (ji19) then (if (ji19) < (l0_0.length : Int) then (if (rd l0_0 (ji16)) < (rd l0_0 (ji19)) then (some (rd l0_0 (ji19))) else (some (wrap64 ((rd l0_0 (ji16)) + 1)))) else (none)) else (none)) = some r := by first | (rw [hji19] at H; exact H) | (simp only [hji19] at H ⊢; exact H)
     have hji19w : (IntKind.i64.wrap ((wrap64 (a0_1 + a1)) + 1)) = ji19 := (i64_w _).trans hji19
     by_cases c20 : 0 ≤ (ji19)
     ·rw [if_pos c20] at H
      have c20b0 : decide (0 ≤ (ji19)) = true := decide_eq_true c20
      clear c20
      by_cases c21 : (ji19) < (l0_0.length : Int)
      ·rw [if_pos c21] at H
       have c21b0 : decide ((ji19) < (l0_0.length : Int)) = true := decide_eq_true c21
       clear c21
       by_cases c22 : (rd l0_0 (ji16)) < (rd l0_0 (ji19))
       ·rw [if_pos c22] at H
        have c22b0 : decide ((rd l0_0 (ji16)) < (rd l0_0 (ji19))) = true := decide_eq_true c22
        clear c22
        obtain rfl := Option.some.inj H
        go_enter Try.func173, Try.ntmps173
        go_wp2_with (first | ((with_reducible refine gate_dst (N := 3) rfl ?_); refine box_event ?hg (N := 3) ?hd (cs := #[.slice A0_0 l0_0.length c0_0, .int .i64 a0_1]) (t := 213) ?hr ?_; (case hd => rfl); (case hg => rfl); (case hr => first | (go_simp; done) | (go_simp; rfl)); intro gb518 hg w23 hbox hb; have n0_ := Aside0.mk (below_step (by repeat (first | (with_reducible first | exact HB.out | apply below_alloc | apply pw_below_drewN | apply below_drew1) | exact HB.out)) hb); have n1_ := Aside0.mk (hbox); have n2_ := Aside0.mk ((by rw [hg]; exact (below_size (by repeat (first | (with_reducible first | exact HB.out | apply below_alloc | apply pw_below_drewN | apply below_drew1) | exact HB.out))) : w.heap.size ≤ gb518)); have n3_ := Aside0.mk ((by rw [hg]; exact (below_size (by repeat (first | (with_reducible first | exact HB.out | apply below_alloc | apply pw_below_drewN | apply below_drew1) | exact HB.out))) : w.heap.size ≤ gb518)); clear HB; have HB := n0_; have BK518 := n1_; have GW518 := n2_; have GE518 := n3_; clear n0_ n1_ n2_ n3_; clear hb hbox hg; have hcz24_0 : w23.cell? ⟨gb518, 0, none⟩ = some (.slice A0_0 l0_0.length c0_0) := (blk_cell BK518.out 0).trans rfl; have hcz24_1 : w23.cell? ⟨gb518, 1, none⟩ = some (.int .i64 a0_1) := (blk_cell BK518.out 1).trans rfl; have hfz24_0 := blk_frozen BK518.out 0; have hfz24_1 := blk_frozen BK518.out 1; have p521 : 0 ≤ ((ji16) : Int) := of_decide_eq_true (by first | (with_reducible assumption) | assumption); have q521 : (ji16) < (l0_0.length : Int) := of_decide_eq_true (by first | (with_reducible assumption) | assumption); obtain ⟨ad521, e521, hx521_0⟩ := Kd.at_int HR0_0.out (ji16) p521 q521; cases e521; replace hx521_0 := (HB.out.cell (World.block_lt_of_cell? w _ hx521_0)).trans hx521_0; replace p521 := eq_true p521; replace q521 := eq_true q521; have p522 : 0 ≤ ((ji19) : Int) := of_decide_eq_true (by first | (with_reducible assumption) | assumption); have q522 : (ji19) < (l0_0.length : Int) := of_decide_eq_true (by first | (with_reducible assumption) | assumption); obtain ⟨ad522, e522, hx522_0⟩ := Kd.at_int HR0_0.out (ji19) p522 q522; obtain rfl : ad521 = ad522 := (by injection e522); replace hx522_0 := (HB.out.cell (World.block_lt_of_cell? w _ hx522_0)).trans hx522_0; replace p522 := eq_true p522; replace q522 := eq_true q522; have p523 : 0 ≤ ((ji19) : Int) := of_decide_eq_true (by first | (with_reducible assumption) | assumption); have q523 : (ji19) < (l0_0.length : Int) := of_decide_eq_true (by first | (with_reducible assumption) | assumption); obtain ⟨ad523, e523, hx523_0⟩ := Kd.at_int HR0_0.out (ji19) p523 q523; obtain rfl : ad521 = ad523 := (by injection e523); replace hx523_0 := (HB.out.cell (World.block_lt_of_cell? w _ hx523_0)).trans hx523_0; replace p523 := eq_true p523; replace q523 := eq_true q523))
        repeat (go_quiet (first | ((with_reducible refine gate_dst (N := 3) rfl ?_); refine box_event ?hg (N := 3) ?hd (cs := #[.slice A0_0 l0_0.length c0_0, .int .i64 a0_1]) (t := 213) ?hr ?_; (case hd => rfl); (case hg => rfl); (case hr => first | (go_simp; done) | (go_simp; rfl)); intro gb518 hg w23 hbox hb; have n0_ := Aside0.mk (below_step (by repeat (first | (with_reducible first | exact HB.out | apply below_alloc | apply pw_below_drewN | apply below_drew1) | exact HB.out)) hb); have n1_ := Aside0.mk (hbox); have n2_ := Aside0.mk ((by rw [hg]; exact (below_size (by repeat (first | (with_reducible first | exact HB.out | apply below_alloc | apply pw_below_drewN | apply below_drew1) | exact HB.out))) : w.heap.size ≤ gb518)); have n3_ := Aside0.mk ((by rw [hg]; exact (below_size (by repeat (first | (with_reducible first | exact HB.out | apply below_alloc | apply pw_below_drewN | apply below_drew1) | exact HB.out))) : w.heap.size ≤ gb518)); clear HB; have HB := n0_; have BK518 := n1_; have GW518 := n2_; have GE518 := n3_; clear n0_ n1_ n2_ n3_; clear hb hbox hg; have hcz24_0 : w23.cell? ⟨gb518, 0, none⟩ = some (.slice A0_0 l0_0.length c0_0) := (blk_cell BK518.out 0).trans rfl; have hcz24_1 : w23.cell? ⟨gb518, 1, none⟩ = some (.int .i64 a0_1) := (blk_cell BK518.out 1).trans rfl; have hfz24_0 := blk_frozen BK518.out 0; have hfz24_1 := blk_frozen BK518.out 1; have p521 : 0 ≤ ((ji16) : Int) := of_decide_eq_true (by first | (with_reducible assumption) | assumption); have q521 : (ji16) < (l0_0.length : Int) := of_decide_eq_true (by first | (with_reducible assumption) | assumption); obtain ⟨ad521, e521, hx521_0⟩ := Kd.at_int HR0_0.out (ji16) p521 q521; cases e521; replace hx521_0 := (HB.out.cell (World.block_lt_of_cell? w _ hx521_0)).trans hx521_0; replace p521 := eq_true p521; replace q521 := eq_true q521; have p522 : 0 ≤ ((ji19) : Int) := of_decide_eq_true (by first | (with_reducible assumption) | assumption); have q522 : (ji19) < (l0_0.length : Int) := of_decide_eq_true (by first | (with_reducible assumption) | assumption); obtain ⟨ad522, e522, hx522_0⟩ := Kd.at_int HR0_0.out (ji19) p522 q522; obtain rfl : ad521 = ad522 := (by injection e522); replace hx522_0 := (HB.out.cell (World.block_lt_of_cell? w _ hx522_0)).trans hx522_0; replace p522 := eq_true p522; replace q522 := eq_true q522; have p523 : 0 ≤ ((ji19) : Int) := of_decide_eq_true (by first | (with_reducible assumption) | assumption); have q523 : (ji19) < (l0_0.length : Int) := of_decide_eq_true (by first | (with_reducible assumption) | assumption); obtain ⟨ad523, e523, hx523_0⟩ := Kd.at_int HR0_0.out (ji19) p523 q523; obtain rfl : ad521 = ad523 := (by injection e523); replace hx523_0 := (HB.out.cell (World.block_lt_of_cell? w _ hx523_0)).trans hx523_0; replace p523 := eq_true p523; replace q523 := eq_true q523)); try go_wp2_with (first | ((with_reducible refine gate_dst (N := 3) rfl ?_); refine box_event ?hg (N := 3) ?hd (cs := #[.slice A0_0 l0_0.length c0_0, .int .i64 a0_1]) (t := 213) ?hr ?_; (case hd => rfl); (case hg => rfl); (case hr => first | (go_simp; done) | (go_simp; rfl)); intro gb518 hg w23 hbox hb; have n0_ := Aside0.mk (below_step (by repeat (first | (with_reducible first | exact HB.out | apply below_alloc | apply pw_below_drewN | apply below_drew1) | exact HB.out)) hb); have n1_ := Aside0.mk (hbox); have n2_ := Aside0.mk ((by rw [hg]; exact (below_size (by repeat (first | (with_reducible first | exact HB.out | apply below_alloc | apply pw_below_drewN | apply below_drew1) | exact HB.out))) : w.heap.size ≤ gb518)); have n3_ := Aside0.mk ((by rw [hg]; exact (below_size (by repeat (first | (with_reducible first | exact HB.out | apply below_alloc | apply pw_below_drewN | apply below_drew1) | exact HB.out))) : w.heap.size ≤ gb518)); clear HB; have HB := n0_; have BK518 := n1_; have GW518 := n2_; have GE518 := n3_; clear n0_ n1_ n2_ n3_; clear hb hbox hg; have hcz24_0 : w23.cell? ⟨gb518, 0, none⟩ = some (.slice A0_0 l0_0.length c0_0) := (blk_cell BK518.out 0).trans rfl; have hcz24_1 : w23.cell? ⟨gb518, 1, none⟩ = some (.int .i64 a0_1) := (blk_cell BK518.out 1).trans rfl; have hfz24_0 := blk_frozen BK518.out 0; have hfz24_1 := blk_frozen BK518.out 1; have p521 : 0 ≤ ((ji16) : Int) := of_decide_eq_true (by first | (with_reducible assumption) | assumption); have q521 : (ji16) < (l0_0.length : Int) := of_decide_eq_true (by first | (with_reducible assumption) | assumption); obtain ⟨ad521, e521, hx521_0⟩ := Kd.at_int HR0_0.out (ji16) p521 q521; cases e521; replace hx521_0 := (HB.out.cell (World.block_lt_of_cell? w _ hx521_0)).trans hx521_0; replace p521 := eq_true p521; replace q521 := eq_true q521; have p522 : 0 ≤ ((ji19) : Int) := of_decide_eq_true (by first | (with_reducible assumption) | assumption); have q522 : (ji19) < (l0_0.length : Int) := of_decide_eq_true (by first | (with_reducible assumption) | assumption); obtain ⟨ad522, e522, hx522_0⟩ := Kd.at_int HR0_0.out (ji19) p522 q522; obtain rfl : ad521 = ad522 := (by injection e522); replace hx522_0 := (HB.out.cell (World.block_lt_of_cell? w _ hx522_0)).trans hx522_0; replace p522 := eq_true p522; replace q522 := eq_true q522; have p523 : 0 ≤ ((ji19) : Int) := of_decide_eq_true (by first | (with_reducible assumption) | assumption); have q523 : (ji19) < (l0_0.length : Int) := of_decide_eq_true (by first | (with_reducible assumption) | assumption); obtain ⟨ad523, e523, hx523_0⟩ := Kd.at_int HR0_0.out (ji19) p523 q523; obtain rfl : ad521 = ad523 := (by injection e523); replace hx523_0 := (HB.out.cell (World.block_lt_of_cell? w _ hx523_0)).trans hx523_0; replace p523 := eq_true p523; replace q523 := eq_true q523)))
        go_ret
        exact ⟨by first | rfl | (simp [errW_none, errW_some] <;> rfl) | (simp only [← hji16, ← hji19]; first | rfl | (simp [errW_none, errW_some] <;> rfl)) | (simp [*, errW_none, errW_some] <;> rfl), by repeat (first | (with_reducible first | exact HB.out | apply below_alloc | apply pw_below_drewN | apply below_drew1 | refine below_set ?_ GE518.out) | exact HB.out)⟩
       ·rw [if_neg c22] at H
        have c22b0 : decide ((rd l0_0 (ji16)) < (rd l0_0 (ji19))) = false := decide_eq_false c22
        clear c22
        obtain rfl := Option.some.inj H
        go_enter Try.func173, Try.ntmps173
        go_wp2_with (first | ((with_reducible refine gate_dst (N := 3) rfl ?_); refine box_event ?hg (N := 3) ?hd (cs := #[.slice A0_0 l0_0.length c0_0, .int .i64 a0_1]) (t := 213) ?hr ?_; (case hd => rfl); (case hg => rfl); (case hr => first | (go_simp; done) | (go_simp; rfl)); intro gb518 hg w25 hbox hb; have n0_ := Aside0.mk (below_step (by repeat (first | (with_reducible first | exact HB.out | apply below_alloc | apply pw_below_drewN | apply below_drew1) | exact HB.out)) hb); have n1_ := Aside0.mk (hbox); have n2_ := Aside0.mk ((by rw [hg]; exact (below_size (by repeat (first | (with_reducible first | exact HB.out | apply below_alloc | apply pw_below_drewN | apply below_drew1) | exact HB.out))) : w.heap.size ≤ gb518)); have n3_ := Aside0.mk ((by rw [hg]; exact (below_size (by repeat (first | (with_reducible first | exact HB.out | apply below_alloc | apply pw_below_drewN | apply below_drew1) | exact HB.out))) : w.heap.size ≤ gb518)); clear HB; have HB := n0_; have BK518 := n1_; have GW518 := n2_; have GE518 := n3_; clear n0_ n1_ n2_ n3_; clear hb hbox hg; have hcz26_0 : w25.cell? ⟨gb518, 0, none⟩ = some (.slice A0_0 l0_0.length c0_0) := (blk_cell BK518.out 0).trans rfl; have hcz26_1 : w25.cell? ⟨gb518, 1, none⟩ = some (.int .i64 a0_1) := (blk_cell BK518.out 1).trans rfl; have hfz26_0 := blk_frozen BK518.out 0; have hfz26_1 := blk_frozen BK518.out 1; have p521 : 0 ≤ ((ji16) : Int) := of_decide_eq_true (by first | (with_reducible assumption) | assumption); have q521 : (ji16) < (l0_0.length : Int) := of_decide_eq_true (by first | (with_reducible assumption) | assumption); obtain ⟨ad521, e521, hx521_0⟩ := Kd.at_int HR0_0.out (ji16) p521 q521; cases e521; replace hx521_0 := (HB.out.cell (World.block_lt_of_cell? w _ hx521_0)).trans hx521_0; replace p521 := eq_true p521; replace q521 := eq_true q521; have p522 : 0 ≤ ((ji19) : Int) := of_decide_eq_true (by first | (with_reducible assumption) | assumption); have q522 : (ji19) < (l0_0.length : Int) := of_decide_eq_true (by first | (with_reducible assumption) | assumption); obtain ⟨ad522, e522, hx522_0⟩ := Kd.at_int HR0_0.out (ji19) p522 q522; obtain rfl : ad521 = ad522 := (by injection e522); replace hx522_0 := (HB.out.cell (World.block_lt_of_cell? w _ hx522_0)).trans hx522_0; replace p522 := eq_true p522; replace q522 := eq_true q522; have p524 : 0 ≤ ((ji16) : Int) := of_decide_eq_true (by first | (with_reducible assumption) | assumption); have q524 : (ji16) < (l0_0.length : Int) := of_decide_eq_true (by first | (with_reducible assumption) | assumption); obtain ⟨ad524, e524, hx524_0⟩ := Kd.at_int HR0_0.out (ji16) p524 q524; obtain rfl : ad521 = ad524 := (by injection e524); replace hx524_0 := (HB.out.cell (World.block_lt_of_cell? w _ hx524_0)).trans hx524_0; replace p524 := eq_true p524; replace q524 := eq_true q524))
        repeat (go_quiet (first | ((with_reducible refine gate_dst (N := 3) rfl ?_); refine box_event ?hg (N := 3) ?hd (cs := #[.slice A0_0 l0_0.length c0_0, .int .i64 a0_1]) (t := 213) ?hr ?_; (case hd => rfl); (case hg => rfl); (case hr => first | (go_simp; done) | (go_simp; rfl)); intro gb518 hg w25 hbox hb; have n0_ := Aside0.mk (below_step (by repeat (first | (with_reducible first | exact HB.out | apply below_alloc | apply pw_below_drewN | apply below_drew1) | exact HB.out)) hb); have n1_ := Aside0.mk (hbox); have n2_ := Aside0.mk ((by rw [hg]; exact (below_size (by repeat (first | (with_reducible first | exact HB.out | apply below_alloc | apply pw_below_drewN | apply below_drew1) | exact HB.out))) : w.heap.size ≤ gb518)); have n3_ := Aside0.mk ((by rw [hg]; exact (below_size (by repeat (first | (with_reducible first | exact HB.out | apply below_alloc | apply pw_below_drewN | apply below_drew1) | exact HB.out))) : w.heap.size ≤ gb518)); clear HB; have HB := n0_; have BK518 := n1_; have GW518 := n2_; have GE518 := n3_; clear n0_ n1_ n2_ n3_; clear hb hbox hg; have hcz26_0 : w25.cell? ⟨gb518, 0, none⟩ = some (.slice A0_0 l0_0.length c0_0) := (blk_cell BK518.out 0).trans rfl; have hcz26_1 : w25.cell? ⟨gb518, 1, none⟩ = some (.int .i64 a0_1) := (blk_cell BK518.out 1).trans rfl; have hfz26_0 := blk_frozen BK518.out 0; have hfz26_1 := blk_frozen BK518.out 1; have p521 : 0 ≤ ((ji16) : Int) := of_decide_eq_true (by first | (with_reducible assumption) | assumption); have q521 : (ji16) < (l0_0.length : Int) := of_decide_eq_true (by first | (with_reducible assumption) | assumption); obtain ⟨ad521, e521, hx521_0⟩ := Kd.at_int HR0_0.out (ji16) p521 q521; cases e521; replace hx521_0 := (HB.out.cell (World.block_lt_of_cell? w _ hx521_0)).trans hx521_0; replace p521 := eq_true p521; replace q521 := eq_true q521; have p522 : 0 ≤ ((ji19) : Int) := of_decide_eq_true (by first | (with_reducible assumption) | assumption); have q522 : (ji19) < (l0_0.length : Int) := of_decide_eq_true (by first | (with_reducible assumption) | assumption); obtain ⟨ad522, e522, hx522_0⟩ := Kd.at_int HR0_0.out (ji19) p522 q522; obtain rfl : ad521 = ad522 := (by injection e522); replace hx522_0 := (HB.out.cell (World.block_lt_of_cell? w _ hx522_0)).trans hx522_0; replace p522 := eq_true p522; replace q522 := eq_true q522; have p524 : 0 ≤ ((ji16) : Int) := of_decide_eq_true (by first | (with_reducible assumption) | assumption); have q524 : (ji16) < (l0_0.length : Int) := of_decide_eq_true (by first | (with_reducible assumption) | assumption); obtain ⟨ad524, e524, hx524_0⟩ := Kd.at_int HR0_0.out (ji16) p524 q524; obtain rfl : ad521 = ad524 := (by injection e524); replace hx524_0 := (HB.out.cell (World.block_lt_of_cell? w _ hx524_0)).trans hx524_0; replace p524 := eq_true p524; replace q524 := eq_true q524)); try go_wp2_with (first | ((with_reducible refine gate_dst (N := 3) rfl ?_); refine box_event ?hg (N := 3) ?hd (cs := #[.slice A0_0 l0_0.length c0_0, .int .i64 a0_1]) (t := 213) ?hr ?_; (case hd => rfl); (case hg => rfl); (case hr => first | (go_simp; done) | (go_simp; rfl)); intro gb518 hg w25 hbox hb; have n0_ := Aside0.mk (below_step (by repeat (first | (with_reducible first | exact HB.out | apply below_alloc | apply pw_below_drewN | apply below_drew1) | exact HB.out)) hb); have n1_ := Aside0.mk (hbox); have n2_ := Aside0.mk ((by rw [hg]; exact (below_size (by repeat (first | (with_reducible first | exact HB.out | apply below_alloc | apply pw_below_drewN | apply below_drew1) | exact HB.out))) : w.heap.size ≤ gb518)); have n3_ := Aside0.mk ((by rw [hg]; exact (below_size (by repeat (first | (with_reducible first | exact HB.out | apply below_alloc | apply pw_below_drewN | apply below_drew1) | exact HB.out))) : w.heap.size ≤ gb518)); clear HB; have HB := n0_; have BK518 := n1_; have GW518 := n2_; have GE518 := n3_; clear n0_ n1_ n2_ n3_; clear hb hbox hg; have hcz26_0 : w25.cell? ⟨gb518, 0, none⟩ = some (.slice A0_0 l0_0.length c0_0) := (blk_cell BK518.out 0).trans rfl; have hcz26_1 : w25.cell? ⟨gb518, 1, none⟩ = some (.int .i64 a0_1) := (blk_cell BK518.out 1).trans rfl; have hfz26_0 := blk_frozen BK518.out 0; have hfz26_1 := blk_frozen BK518.out 1; have p521 : 0 ≤ ((ji16) : Int) := of_decide_eq_true (by first | (with_reducible assumption) | assumption); have q521 : (ji16) < (l0_0.length : Int) := of_decide_eq_true (by first | (with_reducible assumption) | assumption); obtain ⟨ad521, e521, hx521_0⟩ := Kd.at_int HR0_0.out (ji16) p521 q521; cases e521; replace hx521_0 := (HB.out.cell (World.block_lt_of_cell? w _ hx521_0)).trans hx521_0; replace p521 := eq_true p521; replace q521 := eq_true q521; have p522 : 0 ≤ ((ji19) : Int) := of_decide_eq_true (by first | (with_reducible assumption) | assumption); have q522 : (ji19) < (l0_0.length : Int) := of_decide_eq_true (by first | (with_reducible assumption) | assumption); obtain ⟨ad522, e522, hx522_0⟩ := Kd.at_int HR0_0.out (ji19) p522 q522; obtain rfl : ad521 = ad522 := (by injection e522); replace hx522_0 := (HB.out.cell (World.block_lt_of_cell? w _ hx522_0)).trans hx522_0; replace p522 := eq_true p522; replace q522 := eq_true q522; have p524 : 0 ≤ ((ji16) : Int) := of_decide_eq_true (by first | (with_reducible assumption) | assumption); have q524 : (ji16) < (l0_0.length : Int) := of_decide_eq_true (by first | (with_reducible assumption) | assumption); obtain ⟨ad524, e524, hx524_0⟩ := Kd.at_int HR0_0.out (ji16) p524 q524; obtain rfl : ad521 = ad524 := (by injection e524); replace hx524_0 := (HB.out.cell (World.block_lt_of_cell? w _ hx524_0)).trans hx524_0; replace p524 := eq_true p524; replace q524 := eq_true q524)))
        go_ret
        exact ⟨by first | rfl | (simp [errW_none, errW_some] <;> rfl) | (simp only [← hji16, ← hji19]; first | rfl | (simp [errW_none, errW_some] <;> rfl)) | (simp [*, errW_none, errW_some] <;> rfl), by repeat (first | (with_reducible first | exact HB.out | apply below_alloc | apply pw_below_drewN | apply below_drew1 | refine below_set ?_ GE518.out) | exact HB.out)⟩
      ·rw [if_neg c21] at H
       exact absurd H (by simp)
     ·rw [if_neg c20] at H
      exact absurd H (by simp)
    ·rw [if_neg c18] at H
     exact absurd H (by simp)
   ·rw [if_neg c17] at H
    exact absurd H (by simp)
end Go.Proofs.Ytfiamddinkokbaa.F
end

section
set_option linter.unusedVariables false
set_option linter.unusedSimpArgs false
namespace Go.Proofs.Ytfiamddinkokbaa.F
open Go.RowKit Go.Shelf Go.Proofs.YtfiamddinkokbaaW.PrintWords
set_option linter.unusedVariables false
set_option linter.unusedSimpArgs false
def slide (xs ys : List Int) (k : Int) : Nat → Int → Int
 | 0, u => u
 | s + 1, u => if u < xs.length ∧ u - k < ys.length ∧ rd xs u = rd ys (u - k) then slide xs ys k s (u + 1) else u
def slideI (xs ys : List Int) (k u : Int) : Int := slide xs ys k ((xs.length : Int) - u).toNat u
theorem slideI_on {xs ys : List Int} {k u : Int} (h1 : u < xs.length) (h2 : u - k < ys.length) (h3 : rd xs u = rd ys (u - k)) : slideI xs ys k u = slideI xs ys k (u + 1) := by
 unfold slideI
 rw [show ((xs.length : Int) - u).toNat = ((xs.length : Int) - (u + 1)).toNat + 1 by omega, slide, if_pos ⟨h1, h2, h3⟩]
theorem slideI_off {xs ys : List Int} {k u : Int} (h : ¬ (u < xs.length ∧ u - k < ys.length ∧ rd xs u = rd ys (u - k))) : slideI xs ys k u = u := by
 unfold slideI
 cases hn : ((xs.length : Int) - u).toNat with
 | zero => rfl
 | succ m => rw [slide, if_neg h]
def beginI (far : List Int) (off k d : Int) : Int := if k = -d ∨ (k ≠ d ∧ rd far (off + k - 1) < rd far (off + k + 1)) then rd far (off + k + 1) else rd far (off + k - 1) + 1
theorem C_int_at {w : World} {A : Option Addr} {n : Nat} {xs : List Int} (h : Kd.C (Kd.int .i64) w A n xs) (i : Int) (h0 : 0 ≤ i) (h1 : i < n) : ∃ ad, A = some ad ∧ w.cell? (ad.add i.toNat) = some (.int .i64 (rd xs i)) := by
 have hn := h.1
 obtain ⟨ad, e, hc⟩ := h.2.2 (by omega)
 refine ⟨ad, e, ?_⟩
 have hi : i.toNat < xs.length := by omega
 obtain ⟨c, hl, hk, hcell⟩ := hc i.toNat (xs[i.toNat]) (List.getElem?_eq_getElem hi)
 have hk' : c = [Value.int .i64 (xs[i.toNat])] := hk
 have := hcell 0 _ (by rw [hk']; rfl)
 have e2 : rd xs i = xs[i.toNat] := by unfold rd; rw [List.getD_eq_getElem?_getD, List.getElem?_eq_getElem hi]; rfl
 rw [e2]
 simpa [show (Kd.int .i64).sz = 1 from rfl] using this
def Row (B bf : Nat) (c : Nat) (far : List Int) (w : World) : Prop := Kd.R (Kd.int .i64) 3 w B (fun k => k = bf) (.slice (some ⟨bf, 0, none⟩) far.length c) far
theorem begin_f (far : List Int) (off k d : Int) (hd0 : 0 ≤ d) (hd1 : d ≤ 20000000000) (h1 : -d ≤ k) (h2 : k ≤ d) (ho : d + 1 ≤ off) (ho1 : off ≤ 20000000000) (hl : off + d + 1 < far.length) (hb : ∀ x ∈ far, -1 ≤ x ∧ x ≤ 100000000000) :
  lcs_run_begin.f far off k d = some (beginI far off k d) := by
 have e1 : wrap64 (-d) = -d := by unfold wrap64; omega
 have e2 : wrap64 (off + k) = off + k := by unfold wrap64; omega
 have e3 : wrap64 (off + k + 1) = off + k + 1 := by unfold wrap64; omega
 have e4 : wrap64 (off + k - 1) = off + k - 1 := by unfold wrap64; omega
 have hr : ∀ i : Int, 0 ≤ i → i < far.length → -1 ≤ rd far i ∧ rd far i ≤ 100000000000 := by
  intro i h0 hi
  have hi2 : i.toNat < far.length := by omega
  unfold rd; rw [List.getD_eq_getElem?_getD, List.getElem?_eq_getElem hi2]
  exact hb _ (List.getElem_mem hi2)
 have r1 := hr (off + k + 1) (by omega) (by omega)
 have r2 := hr (off + k - 1) (by omega) (by omega)
 have e5 : wrap64 (rd far (off + k - 1) + 1) = rd far (off + k - 1) + 1 := by unfold wrap64; omega
 unfold lcs_run_begin.f beginI
 rw [e1, e2, e3, e4, e5]
 by_cases hk : k = -d
 ·rw [if_pos hk, if_pos (by omega), if_pos (by omega), if_pos (.inl hk)]
 ·rw [if_neg hk]
  by_cases hk2 : k = d
  ·rw [if_pos hk2, if_pos (by omega), if_pos (by omega), if_neg (by omega)]
  ·rw [if_neg hk2, if_pos (by omega), if_pos (by omega), if_pos (by omega), if_pos (by omega)]
   by_cases hk3 : rd far (off + k - 1) < rd far (off + k + 1)
   ·rw [if_pos hk3, if_pos (.inr ⟨hk2, hk3⟩)]
   ·rw [if_neg hk3, if_neg (by omega)]
theorem two_boxes {w W1 : World} {c1 c2 : Array Value} {t1 t2 : TypeId} (hb : Below ((w.alloc (.cells c1 t1)).alloc (.cells c2 t2)).heap.size ((w.alloc (.cells c1 t1)).alloc (.cells c2 t2)) W1) :
  Below w.heap.size w W1 ∧ W1.heap[w.heap.size]? = some (.cells c1 t1 (0, 0)) ∧ W1.heap[w.heap.size + 1]? = some (.cells c2 t2 (0, 0)) := by
 have hs : (w.alloc (.cells c1 t1)).heap.size = w.heap.size + 1 := World.size_alloc _ _
 have hs2 : ((w.alloc (.cells c1 t1)).alloc (.cells c2 t2)).heap.size = w.heap.size + 1 + 1 := by rw [World.size_alloc, hs]
 have h1 : ((w.alloc (.cells c1 t1)).alloc (.cells c2 t2)).heap[w.heap.size]? = some (.cells c1 t1 (0, 0)) := (Lib.alloc_old (w.alloc (.cells c1 t1)) _ w.heap.size (by omega)).trans (World.alloc_heap_new w _)
 have h2 : ((w.alloc (.cells c1 t1)).alloc (.cells c2 t2)).heap[w.heap.size + 1]? = some (.cells c2 t2 (0, 0)) := by rw [← hs]; exact World.alloc_heap_new (w.alloc (.cells c1 t1)) _
 exact ⟨below_step (below_alloc (below_alloc (Below.refl _ _) _) _) hb, (hb.block _ (by omega)).trans h1, (hb.block _ (by omega)).trans h2⟩
def Went (bf : Nat) (i u e : Int) (w : World) (en : Ending) (w' : World) : Prop := en = .returned (.tuple #[.int .i64 u, .int .i64 e]) ∧ ∃ W1, Below w.heap.size w W1 ∧ w' = W1.setCell ⟨bf, i.toNat, none⟩ (.int .i64 e)
set_option maxHeartbeats 4000000 in
set_option maxRecDepth 100000 in
theorem forth_calls {B f bf c : Nat} {A C : Option Addr} {ca cb : Nat} {a b : List Int} {l : List SP} {far : List Int} {w : World} (a0 a1 b0 b1 off k d : Int) (xs ys : List Int)
  (hF : Fin B f (.slice A a.length ca) (.slice C b.length cb) l w) (hA : Kd.C (Kd.int .i64) w A a.length a) (hC : Kd.C (Kd.int .i64) w C b.length b) (hR : Row B bf c far w)
  (ha0 : 0 ≤ a0) (ha1 : a0 ≤ a1) (ha2 : a1 ≤ a.length) (hb0 : 0 ≤ b0) (hb1 : b0 ≤ b1) (hb2 : b1 ≤ b.length) (hla : a.length ≤ 4000000000) (hlb : b.length ≤ 4000000000)
  (hd0 : 0 ≤ d) (hd1 : d ≤ 20000000000) (hk1 : -d ≤ k) (hk2 : k ≤ d) (ho : d + 1 ≤ off) (ho1 : off ≤ 20000000000) (hlf : off + d + 1 < far.length) (hfb : ∀ x ∈ far, -1 ≤ x ∧ x ≤ 100000000000)
  (hxl : (xs.length : Int) = a1 - a0) (hyl : (ys.length : Int) = b1 - b0) (hx : ∀ u : Int, 0 ≤ u → u < a1 - a0 → rd a (a0 + u) = rd xs u) (hy : ∀ u : Int, 0 ≤ u → u < b1 - b0 → rd b (b0 + u) = rd ys u)
  (hu0 : 0 ≤ beginI far off k d) (hu1 : k ≤ beginI far off k d) (hu2 : beginI far off k d ≤ 100000000000) :
  Calls Try.prog 170 #[.pointer (some ⟨f, 0, none⟩), .agg #[.int .i64 a0, .int .i64 a1, .int .i64 b0, .int .i64 b1], .agg #[.slice (some ⟨bf, 0, none⟩) far.length c, .int .i64 off], .int .i64 k, .int .i64 d] w
   (Went bf (off + k) (beginI far off k d) (slideI xs ys k (beginI far off k d)) w) := by
 have hrl := Kd.R_reads' hR
 have HRC := Aside0.mk hrl.2.2
 have HRL := Aside0.mk hrl.2.1
 have HBeg := Aside0.mk (begin_f far off k d hd0 hd1 hk1 hk2 ho ho1 hlf hfb)
 have HF := Aside0.mk hF
 have HA := Aside0.mk hA
 have HC := Aside0.mk hC
 have HR := Aside0.mk hR
 have HX := Aside0.mk hx
 have HY := Aside0.mk hy
 have HXL := Aside0.mk hxl
 have HYL := Aside0.mk hyl
 have HLF := Aside0.mk hlf
 clear hF hA hC hR hx hy hfb hxl hyl hrl hlf
 generalize beginI far off k d = u0 at *
 go_enter Try.func170, Try.ntmps170
 go_wp2_with (first | (go_at_call 173; with_reducible refine (lcs_run_begin.calls _ _ far off k d u0 _ (Kd.C_alloc (Kd.C_alloc HRC.out _) _) HRL.out HBeg.out).mono ?_; rintro e W1 ⟨rfl, hb1⟩; have h2b := two_boxes hb1; clear hb1))
 obtain ⟨hb1, hx6, hx7⟩ := h2b
 have HB1 := Aside0.mk hb1
 have p0 := (blk_cell hx6 0).trans (rfl : _ = some (Value.int .i64 a0))
 have p1 := (blk_cell hx6 1).trans (rfl : _ = some (Value.int .i64 a1))
 have p2 := (blk_cell hx6 2).trans (rfl : _ = some (Value.int .i64 b0))
 have p3 := (blk_cell hx6 3).trans (rfl : _ = some (Value.int .i64 b1))
 have r0 := (blk_cell hx7 0).trans (rfl : _ = some (Value.slice (some ⟨bf, 0, none⟩) far.length c))
 have r1 := (blk_cell hx7 1).trans (rfl : _ = some (Value.int .i64 off))
 have q0 := (HF.out.below hb1).c0
 have q1 := (HF.out.below hb1).c1
 have hst := Kd.R_cell (0 : Int) (Kd.R_below HR.out hb1) (off + k) (by omega) (by have := HLF.out; omega)
 have st1 := hst.1
 have st2 := hst.2
 have st3 : 0 ≤ off + k := by omega
 have st4 : off + k < (far.length : Int) := by have := HLF.out; omega
 clear hb1 hx6 hx7 hst
 go_loopg [12] (a1 - a0).toNat (fun gg s12 wr => ∃ (u : Int) (m : Nat), s12 = .int .i64 u ∧ wr = W1.drewN m ∧ 0 ≤ u ∧ k ≤ u ∧ u ≤ 100000000000 ∧ Aside0 (slideI xs ys k u = slideI xs ys k u0) ∧ Aside0 ((a1 - a0 - u).toNat ≤ gg))
 case atStart => exact ⟨u0, 0, rfl, rfl, hu0, hu1, hu2, ⟨rfl⟩, ⟨by omega⟩⟩
 case round =>
  obtain ⟨u, m, rfl, rfl, hv0, hv1, hv2, HS, HM⟩ := hrel
  by_cases h1 : u < a1 - a0
  ·have h1b : decide (u < a1 - a0) = true := decide_eq_true h1
   by_cases h2 : u - k < b1 - b0
   ·have h2b : decide (u - k < b1 - b0) = true := decide_eq_true h2
    obtain ⟨ad, e1, hx1⟩ := C_int_at (Kd.C_below HA.out HB1.out) (a0 + u) (by omega) (by omega)
    subst e1
    obtain ⟨bd, e2, hx2⟩ := C_int_at (Kd.C_below HC.out HB1.out) (b0 + u - k) (by omega) (by omega)
    subst e2
    have i1 : 0 ≤ a0 + u := by omega
    have i2 : a0 + u < (a.length : Int) := by omega
    have i3 : 0 ≤ b0 + u - k := by omega
    have i4 : b0 + u - k < (b.length : Int) := by omega
    have hxu := HX.out u hv0 h1
    have hyu := HY.out (u - k) (by omega) h2
    rw [show b0 + (u - k) = b0 + u - k by omega] at hyu
    by_cases h3 : rd a (a0 + u) = rd b (b0 + u - k)
    ·have h3b : (rd a (a0 + u) == rd b (b0 + u - k)) = true := beq_iff_eq.2 h3
     have H3 : Aside0 (slideI xs ys k (u + 1) = slideI xs ys k u0) := ⟨by rw [← slideI_on (by have := HXL.out; omega) (by have := HYL.out; omega) (by rw [← hxu, ← hyu]; exact h3)]; exact HS.out⟩
     clear h3 hxu hyu
     go_wp2
     go_quiet (fail)
     go_wp2
     go_roundg ((a1 - a0 - (u + 1)).toNat)
     case measure => have := HM.out; omega
     case rel => exact ⟨u + 1, m + nq, by go_num, rfl, by omega, by omega, by omega, H3, ⟨Nat.le_refl _⟩⟩
    ·have h3b : (rd a (a0 + u) == rd b (b0 + u - k)) = false := by simpa using h3
     have H3 := Aside0.mk (show slideI xs ys k u0 = u by rw [← HS.out]; exact slideI_off (by rw [← hxu, ← hyu]; exact fun h => h3 h.2.2))
     clear h3 hxu hyu
     go_wp2
     go_quiet (fail)
     go_wp2
     go_ret2
     rw [H3.out]
     exact ⟨rfl, W1.drewN (m + nq), pw_below_drewN HB1.out _, rfl⟩
   ·have h2b : decide (u - k < b1 - b0) = false := decide_eq_false h2
    have H3 := Aside0.mk (show slideI xs ys k u0 = u by rw [← HS.out]; exact slideI_off (fun h => h2 (by have := HYL.out; omega)))
    go_wp2
    go_quiet (fail)
    go_wp2
    go_ret2
    rw [H3.out]
    exact ⟨rfl, W1.drewN (m + nq), pw_below_drewN HB1.out _, rfl⟩
  ·have h1b : decide (u < a1 - a0) = false := decide_eq_false h1
   have H3 := Aside0.mk (show slideI xs ys k u0 = u by rw [← HS.out]; exact slideI_off (fun h => h1 (by have := HXL.out; omega)))
   go_wp2
   go_quiet (fail)
   go_wp2
   go_ret2
   rw [H3.out]
   exact ⟨rfl, W1.drewN (m + nq), pw_below_drewN HB1.out _, rfl⟩
end Go.Proofs.Ytfiamddinkokbaa.F
end

section
set_option linter.unusedVariables false
set_option linter.unusedSimpArgs false
namespace Go.Proofs.Ytfiamddinkokbaa.F
open Go.RowKit Go.Shelf Go.Proofs.YtfiamddinkokbaaW.PrintWords
set_option linter.unusedVariables false
set_option linter.unusedSimpArgs false
def newRow (n : Nat) : List Int := (List.replicate (2 * n + 3) (-1)).set (n + 2) 0
theorem newRow_length (n : Nat) : (newRow n).length = 2 * n + 3 := by simp [newRow]
theorem newRow_bound (n : Nat) : ∀ x ∈ newRow n, -1 ≤ x ∧ x ≤ 100000000000 := by
 intro x hx
 rcases List.mem_or_eq_of_mem_set hx with h | h
 ·rw [List.eq_of_mem_replicate h]; omega
 ·omega
theorem Row.put {B bf c : Nat} {far : List Int} {w : World} (h : Row B bf c far w) (i x : Int) : Row B bf c (far.set i.toNat x) (w.setCell ⟨bf, i.toNat, none⟩ (.int .i64 x)) := by
 have := Kd.R_putn h i x
 unfold Row
 rw [List.length_set]
 exact this
theorem Row.below {B bf c : Nat} {far : List Int} {w w' : World} (h : Row B bf c far w) (hb : Below w.heap.size w w') : Row B bf c far w' := Kd.R_below h hb
theorem Row.far {B bf c : Nat} {fr : List Int} {w : World} (h : Row B bf c fr w) {p : Addr} (hp : bf ≠ p.block) (v : Value) : Row B bf c fr (w.setCell p v) := Kd.R_step h (fun k hk _ => by rw [hk]; exact Below.heap_setCell _ _ _ _ hp)
theorem Row.lt {B bf c : Nat} {fr : List Int} {w : World} (h : Row B bf c fr w) : bf < w.heap.size := Kd.R_lt h bf rfl
theorem Row.lo {B bf c : Nat} {fr : List Int} {w : World} (h : Row B bf c fr w) : B ≤ bf := Kd.R_base h bf rfl
theorem Row.lower {B B' bf c : Nat} {fr : List Int} {w : World} (h : Row B bf c fr w) (hb : B' ≤ B) : Row B' bf c fr w := Kd.R_lower h hb
def fillRow (N i : Nat) : List Int := List.replicate i (-1) ++ List.replicate (N - i) 0
theorem fillRow_length (N i : Nat) (h : i ≤ N) : (fillRow N i).length = N := by simp [fillRow]; omega
theorem fillRow_set (N i : Nat) (h : i < N) : (fillRow N i).set i (-1) = fillRow N (i + 1) := by
 unfold fillRow
 rw [List.set_append_right _ _ (by simp), List.length_replicate, Nat.sub_self, show N - i = (N - (i + 1)) + 1 by omega, List.replicate_succ, List.set_cons_zero, List.replicate_succ' (n := i), List.append_assoc]; rfl
def NewRun (n : Nat) (w : World) (e : Ending) (w' : World) : Prop := ∃ g c, e = .returned (.agg #[.slice (some ⟨g, 0, none⟩) (newRow n).length c, .int .i64 (n + 1)]) ∧ w.heap.size ≤ g ∧ Row w.heap.size g c (newRow n) w' ∧ Below w.heap.size w w'
set_option maxHeartbeats 4000000 in
set_option maxRecDepth 100000 in
theorem newRun_calls (n : Nat) (w : World) (hn : n ≤ 8000000000) : Calls Try.prog 169 #[.int .i64 n] w (NewRun n w) := by
 have hmk := print_make (P := Try.prog) 50 3 .i64 8 Try.underlying50 (by kernel_rfl) (by omega) (2 * n + 3) (by omega)
 rw [show ((2 * n + 3 : Nat) : Int) = 2 * (n : Int) + 3 by omega] at hmk
 go_enter Try.func169, Try.ntmps169
 go_wp2
 have hs : (w.alloc (.cells #[.slice none 0 0, .int .i64 0] 213)).heap.size = w.heap.size + 1 := World.size_alloc _ _
 have hrow : Row w.heap.size (w.heap.size + 1) (2 * n + 3) (fillRow (2 * n + 3) 0) ((w.alloc (.cells #[.slice none 0 0, .int .i64 0] 213)).alloc (.cells (madeCells #[.int .i64 0] (2 * n + 3)) 3)) := by
  have := Kd.R_of_own (ok := fun k => k = w.heap.size + 1) (h1 := fun _ => rfl) (own_made_of' (enc := fun x : Int => Value.int .i64 x) (d := 0) (w.alloc (.cells #[.slice none 0 0, .int .i64 0] 213)) w.heap.size 3 (2 * n + 3) (by omega) (by omega)) (by intro k hk; rw [← hs]; simpa [Value.ownBlock] using hk.symm)
  unfold Row fillRow
  rw [hs] at this
  rw [List.replicate_zero, List.nil_append, Nat.sub_zero, List.length_replicate]
  exact this
 have hbx : ((w.alloc (.cells #[.slice none 0 0, .int .i64 0] 213)).alloc (.cells (madeCells #[.int .i64 0] (2 * n + 3)) 3)).heap[w.heap.size]? = some (.cells #[.slice none 0 0, .int .i64 0] 213 (0, 0)) :=
  (Lib.alloc_old (w.alloc (.cells #[.slice none 0 0, .int .i64 0] 213)) _ w.heap.size (by omega)).trans (World.alloc_heap_new w _)
 have hbl := below_alloc (below_alloc (Below.refl w.heap.size w) (.cells #[.slice none 0 0, .int .i64 0] 213)) (.cells (madeCells #[.int .i64 0] (2 * n + 3)) 3)
 have HROW := Aside0.mk hrow
 have HBX := Aside0.mk hbx
 have HBL := Aside0.mk hbl
 clear hrow hbx hbl hs hmk
 generalize ((w.alloc (.cells #[.slice none 0 0, .int .i64 0] 213)).alloc (.cells (madeCells #[.int .i64 0] (2 * n + 3)) 3)) = W at *
 go_loopg [12] (2 * n + 3) (fun gg s12 wr => ∃ i : Nat, i ≤ 2 * n + 3 ∧ 2 * n + 3 - i ≤ gg ∧ s12 = .int .i64 i ∧ Aside0 (Row w.heap.size (w.heap.size + 1) (2 * n + 3) (fillRow (2 * n + 3) i) wr) ∧ Aside0 (wr.heap[w.heap.size]? = some (.cells #[.slice none 0 0, .int .i64 0] 213 (0, 0))) ∧ Aside0 (Below w.heap.size w wr))
 case atStart => exact ⟨0, Nat.zero_le _, by omega, rfl, HROW, HBX, HBL⟩
 case round =>
  clear HROW HBX HBL
  obtain ⟨i, hi, hg, rfl, HR, HX, HB⟩ := hrel
  by_cases hlt : i < 2 * n + 3
  ·have hltz : (i : Int) < 2 * (n : Int) + 3 := by omega
   have a0 : 0 ≤ (i : Int) := by omega
   have hc := Kd.R_celln (0 : Int) HR.out (i : Int) a0 (by rw [fillRow_length _ _ hi]; omega)
   rw [Int.toNat_natCast] at hc
   have c1 := hc.1
   have c2 := hc.2
   have hput := Row.put HR.out (i : Int) (-1)
   rw [Int.toNat_natCast, fillRow_set _ _ hlt] at hput
   have HP := Aside0.mk hput
   clear hc hput
   go_wp2
   go_roundg (2 * n + 3 - (i + 1))
   case measure => omega
   case rel => exact ⟨i + 1, by omega, by omega, by go_num, HP, ⟨(Below.heap_setCell _ _ _ _ (by simp)).trans HX.out⟩, ⟨HB.out.setCell (p := ⟨w.heap.size + 1, i, none⟩) (by simp) _⟩⟩
  ·obtain rfl : i = 2 * n + 3 := by omega
   have q1 : (((2 * n + 3 : Nat) : Int) < 2 * (n : Int) + 3) = False := by simp
   have a0 : (0 : Int) ≤ (n : Int) + 1 + 1 := by omega
   have a1 : (n : Int) + 1 + 1 < 2 * (n : Int) + 3 := by omega
   have a2 : ((n : Int) + 1 + 1).toNat = n + 2 := by omega
   have hrow2 : fillRow (2 * n + 3) (2 * n + 3) = List.replicate (2 * n + 3) (-1) := by simp [fillRow]
   have hc := Kd.R_celln (0 : Int) HR.out ((n : Int) + 1 + 1) a0 (by rw [fillRow_length _ _ hi]; omega)
   rw [a2] at hc
   have c1 := hc.1
   have c2 := hc.2
   have b0 := (blk_cell HX.out 0).trans (rfl : _ = some (Value.slice none 0 0))
   have b1 := (blk_cell HX.out 1).trans (rfl : _ = some (Value.int .i64 0))
   have f0 := Lib.frozen_of_heap HX.out 0
   have f1 := Lib.frozen_of_heap HX.out 1
   have hput := Row.put (HR.out) ((n : Int) + 1 + 1) 0
   rw [a2, hrow2] at hput
   have HP := Aside0.mk hput
   have hsz : w.heap.size + 2 ≤ wr.heap.size := HR.out.lt
   have hne : wr.heap.size ≠ w.heap.size + 1 := by omega
   have hne2 : wr.heap.size ≠ w.heap.size := by omega
   have hne3 : w.heap.size + 1 ≠ wr.heap.size := by omega
   have hne4 : w.heap.size + 1 < wr.heap.size := by omega
   have hne5 : w.heap.size < wr.heap.size := by omega
   have hne6 : w.heap.size ≠ wr.heap.size := by omega
   clear hc hput hrow2
   go_wp2
   refine bodyPost_ret (v := .agg #[.slice (some ⟨w.heap.size + 1, 0, none⟩) (2 * n + 3) (2 * n + 3), .int .i64 ((n : Int) + 1)]) (by simp [results, Try.results169, go_sem, b0, b1, hne5, hne6]) rfl ?_
   refine ⟨w.heap.size + 1, 2 * n + 3, by rw [newRow_length], by omega, ?_, ?_⟩
   ·refine Row.below ?_ (below_alloc (Below.refl _ _) _)
    exact (HP.out.far (by simp) _).far (by simp) _
   ·refine Below.alloc ?_ (by have := HB.out.size; simp [World.setCell]; omega) _
    exact ((HB.out.setCell (p := ⟨w.heap.size + 1, n + 2, none⟩) (by simp) _).setCell (p := ⟨w.heap.size, 0, none⟩) (Nat.le_refl _) _).setCell (p := ⟨w.heap.size, 1, none⟩) (Nat.le_refl _) _
end Go.Proofs.Ytfiamddinkokbaa.F
end

section
set_option linter.unusedVariables false
set_option linter.unusedSimpArgs false
namespace Go.Proofs.Ytfiamddinkokbaa.F
open Go.RowKit Go.Shelf Go.Proofs.YtfiamddinkokbaaW.PrintWords Go.Proofs.YtfiamddinkokbaaW.PrintLast Go.Proofs.YtfiamddinkokbaaW.PrintMore
set_option linter.unusedVariables false
set_option linter.unusedSimpArgs false
def rowI (l : List Int) : List Value := l.map fun x => .int .i64 x
def repRow (N n : Nat) (c : Int) : List Int := List.replicate n c ++ List.replicate (N - n) 0
theorem repRow_length (N n : Nat) (c : Int) (h : n ≤ N) : (repRow N n c).length = N := by simp [repRow]; omega
theorem rep_splice (N n m : Nat) (c : Int) (h : n + m ≤ N) : splice (rowI (repRow N n c)) n (rowI (List.replicate m c)) = rowI (repRow N (n + m) c) := by
 unfold splice rowI repRow
 have e1 : (List.replicate n c ++ List.replicate (N - n) (0 : Int)).take n = List.replicate n c := by rw [List.take_append_of_le_length (by simp), List.take_of_length_le (by simp)]
 have e2 : (List.replicate n c ++ List.replicate (N - n) (0 : Int)).drop (n + m) = List.replicate (N - (n + m)) 0 := by
  rw [List.drop_append, List.drop_of_length_le (by simp), List.nil_append, List.drop_replicate, List.length_replicate]
  congr 1; omega
 rw [← List.map_take, ← List.map_drop, List.length_map, List.length_replicate, e1, e2, ← List.map_append, ← List.map_append, ← List.append_assoc, List.replicate_append_replicate]
theorem rowI_rep (n : Nat) (c : Int) : rowI (List.replicate n c) = List.replicate n (.int .i64 c) := by simp [rowI]
theorem rowI_at {n : Nat} {c : Int} {j : Nat} {v : Value} (h : (rowI (List.replicate n c))[j]? = some v) : j < n ∧ v = .int .i64 c := by
 rw [rowI_rep, List.getElem?_replicate] at h
 split at h
 ·exact ⟨by assumption, (Option.some.inj h).symm⟩
 ·cases h
theorem rowI_one {n : Nat} {c : Int} : ∀ v ∈ rowI (List.replicate n c), v.oneCell' = true := by
 intro v hv
 rw [rowI_rep] at hv
 rw [List.eq_of_mem_replicate hv]; rfl
theorem rowI_len (n : Nat) (c : Int) : (rowI (List.replicate n c)).length = n := by simp [rowI]
theorem row_of_block {w : World} {B g N : Nat} {l : List Int} (hl : l.length = N) (hN : N ≤ 9000000000) (hB : B ≤ g) (h : w.heap[g]? = some (.cells (rowI l).toArray 3 (0, 0))) : Kd.R (Kd.int .i64) 3 w B (fun _ => True) (.slice (some ⟨g, 0, none⟩) N N) l := by
 subst hl
 refine Kd.R_of_own (h1 := fun _ => rfl) (enc := fun x : Int => Value.int .i64 x) ⟨by simp [encs], .inr ⟨g, l.length, _, rfl, hB, h, Nat.le_refl _, by unfold maxLen; omega, by simp [rowI], ?_⟩⟩ (fun _ _ => trivial)
 simp only [rowI, encs, Nat.mul_one]
 rw [List.take_of_length_le (by simp)]
def Repd (N : Nat) (c : Int) (w : World) (e : Ending) (w' : World) : Prop := ∃ v0_ : Value, e = .returned v0_ ∧ Kd.R (Kd.int .i64) 3 w' w.heap.size (fun _ => True) v0_ (List.replicate N c) ∧ Below w.heap.size w w'
set_option maxHeartbeats 800000 in
set_option maxRecDepth 100000 in
theorem repeat_calls (A : Option Addr) (ca N : Nat) (c : Int) (w : World) (hA : Kd.C (Kd.int .i64) w A 1 [c]) (hca : 1 ≤ ca) (hN : N ≤ 4000000000) :
  Calls Try.prog 156 #[.slice A 1 ca, .int .i64 N] w (Repd N c w) := by
 have hmk := print_make (P := Try.prog) 50 3 .i64 8 Try.underlying50 (by kernel_rfl) (by omega) N (by omega)
 have hmul : ∀ W : World, Calls Try.prog 151 #[.int .u64 1, .int .u64 (N : Int)] W fun e w' => e = .returned (.tuple #[.int .u64 0, .int .u64 (N : Int)]) ∧ W = w' := by
  intro W
  have := Try.bits_Mul 1 N (by omega) (by omega) W
  rw [Nat.one_mul, Nat.div_eq_of_lt (by omega), Nat.mod_eq_of_lt (by omega)] at this
  exact this.mono fun _ _ h => ⟨h.1, h.2.symm⟩
 have HMUL := Aside0.mk hmul
 have HA := Aside0.mk hA
 have hb0 := below_alloc (Below.refl w.heap.size w) (.cells (madeCells #[.int .i64 0] N) 3)
 have hg0 : (w.alloc (.cells (madeCells #[.int .i64 0] N) 3)).heap[w.heap.size]? = some (.cells (rowI (repRow N 0 c)).toArray 3 (0, 0)) := by
  have e : madeCells #[.int .i64 0] N = (rowI (repRow N 0 c)).toArray := by
   apply Array.ext'
   apply List.ext_getElem
   ·simp [madeCells, rowI, repRow]
   ·intro i h1 h2
    simp [madeCells, rowI, repRow, Nat.mod_one]
  rw [e]; exact World.alloc_heap_new w _
 have hlen : (rowI (List.replicate (min 1 N) c)).length = Nat.min 1 N := rowI_len _ _
 have hpos : 0 < (rowI (List.replicate (min 1 N) c)).length → ∃ ad, A = some ad ∧ ∀ j v, (rowI (List.replicate (min 1 N) c))[j]? = some v → (w.alloc (.cells (madeCells #[.int .i64 0] N) 3)).cell? (ad.add j) = some v := by
  intro hp
  obtain ⟨ad, e, hc⟩ := C_int_at (Kd.C_below HA.out hb0) 0 (by omega) (by omega)
  refine ⟨ad, e, fun j v hj => ?_⟩
  obtain ⟨hj1, rfl⟩ := rowI_at hj
  have : j = 0 := by omega
  subst this
  exact hc
 have hfit : 0 + (rowI (List.replicate (min 1 N) c)).length ≤ (rowI (repRow N 0 c)).length := by rw [rowI_len]; simp [rowI, repRow]; omega
 have hsp : splice (rowI (repRow N 0 c)) 0 (rowI (List.replicate (min 1 N) c)) = rowI (repRow N (min 1 N) c) := by
  have := rep_splice N 0 (min 1 N) c (by omega)
  rwa [Nat.zero_add] at this
 have HB0 := Aside0.mk hb0
 have HG0 := Aside0.mk hg0
 have HLEN := Aside0.mk hlen
 have HPOS := Aside0.mk hpos
 have HFIT := Aside0.mk hfit
 have HSP := Aside0.mk hsp
 clear hb0 hg0 hlen hpos hfit hsp
 have h1 : (((1 : Nat) : Int) < 0) = False := by simp
 have h2 : decide ((N : Int) < 0) = false := by simp
 clear hmul hA
 go_enter Try.func156, Try.ntmps156
 have hbig : decide (9223372036854775807 < (N : Int)) = false := decide_eq_false (by omega)
 go_wp2_with (first
  | (go_at_call 151; (with_reducible refine (HMUL.out _).mono ?_); rintro e w1 ⟨rfl, rfl⟩)
  | ((with_reducible refine wpList_copy_splice rfl (.tmp 31) (.tmp 32) 50 50 rfl 3 Try.underlying50 (by kernel_rfl) (some ⟨w.heap.size, 0, none⟩) A N N 1 ca rfl rfl w.heap.size 0 (rowI (repRow N 0 c)) 3 HG0.out (rowI (List.replicate (min 1 N) c)) HLEN.out (fun hp => ⟨rfl, HPOS.out hp⟩) HFIT.out rowI_one w.heap.size w HB0.out (Nat.le_refl _) ?_); intro w2 hg2 hb2; have HG2 := Aside0.mk (HSP.out ▸ hg2.out); have HB2 := Aside0.mk hb2; clear hg2 hb2))
 go_loopg [8] N (fun gg s8 wr => ∃ n : Nat, n ≤ N ∧ N - n ≤ gg ∧ s8 = .int .i64 n ∧ Aside0 (min 1 N ≤ n) ∧ Aside0 (wr.heap[w.heap.size]? = some (.cells (rowI (repRow N n c)).toArray 3 (0, 0))) ∧ Aside0 (Below w.heap.size w wr))
 case atStart => exact ⟨min 1 N, by omega, by omega, by rw [rowI_len], ⟨Nat.le_refl _⟩, HG2, HB2⟩
 case round =>
  clear HG2 HB2 HG0 HB0 HPOS HFIT HSP
  obtain ⟨n, hn, hg, rfl, HM, HG, HB⟩ := hrel
  by_cases hlt : n < N
  ·have hltb : decide (n < N) = true := decide_eq_true hlt
   have p0 : (0 : Int) ≤ (n : Int) := by omega
   have p1 : (n : Int) ≤ (N : Int) := by omega
   have hn1 : (rowI (List.replicate (min n (N - n)) c)).length = Nat.min n (N - n) := rowI_len _ _
   have hfit : n + (rowI (List.replicate (min n (N - n)) c)).length ≤ (rowI (repRow N n c)).length := by rw [rowI_len]; simp [rowI, repRow]; omega
   have hsp := rep_splice N n (min n (N - n)) c (by omega)
   have hg' : wr.drew.heap[w.heap.size]? = some (.cells (rowI (repRow N n c)).toArray 3 (0, 0)) := HG.out
   have hpos : ∃ ad, (some (⟨w.heap.size, 0, none⟩ : Addr)) = some ad ∧ ∀ j v, (rowI (List.replicate (min n (N - n)) c))[j]? = some v → wr.drew.cell? (ad.add j) = some v := by
    refine ⟨_, rfl, fun j v hj => ?_⟩
    obtain ⟨hj1, rfl⟩ := rowI_at hj
    rw [add_plain, blk_cell hg' j]
    simp only [rowI, repRow, List.getElem?_toArray, List.map_append, List.map_replicate]
    rw [List.getElem?_append_left (by simp; omega), List.getElem?_replicate, if_pos (by omega)]
   have HN := Aside0.mk hn1
   have HFIT := Aside0.mk hfit
   have HSP := Aside0.mk hsp
   have HPOS := Aside0.mk hpos
   have HG' := Aside0.mk hg'
   have HB' := Aside0.mk (Below.drew HB.out)
   clear hn1 hfit hsp hpos hg'
   have hNn : ¬ N = n := by omega
   have HWR : Aside0 (IntKind.i64.wrap ((n : Int) + ((rowI (List.replicate (min n (N - n)) c)).length : Int)) = ((n + min n (N - n) : Nat) : Int)) := ⟨by rw [rowI_len, i64_w]; unfold wrap64; omega⟩
   go_wp2
   go_region_law (refine step_copy_splice rfl (.tmp 41) (.tmp 44) 50 50 rfl 3 Try.underlying50 (by kernel_rfl) (some ⟨w.heap.size, n, none⟩) (some ⟨w.heap.size, 0, none⟩) (N - n) (N - n) n N (by go_simp) (by go_simp) w.heap.size n (rowI (repRow N n c)) 3 HG'.out (rowI (List.replicate (min n (N - n)) c)) HN.out (fun _ => ⟨rfl, HPOS.out⟩) HFIT.out rowI_one w.heap.size w HB'.out (Nat.le_refl _) ?_; intro w4 hg4 hb4; have HG4 := Aside0.mk (HSP.out ▸ hg4.out); have HB4 := Aside0.mk hb4; clear hg4 hb4)
   all_goals simp only [HWR.out]
   all_goals go_wp2
   all_goals go_roundg (N - (n + min n (N - n)))
   case measure => have := HM.out; omega
   case rel => exact ⟨n + min n (N - n), by omega, Nat.le_refl _, rfl, ⟨by have := HM.out; omega⟩, HG4, HB4⟩
  ·obtain rfl : n = N := by omega
   have q1 : ((n : Int) < (n : Int)) = False := by simp
   go_wp2
   go_ret
   refine ⟨_, rfl, ?_, HB.out⟩
   have := row_of_block (N := n) (l := repRow n n c) (repRow_length n n c (Nat.le_refl _)) (by omega) (Nat.le_refl _) HG.out
   rwa [show repRow n n c = List.replicate n c by simp [repRow]] at this
end Go.Proofs.Ytfiamddinkokbaa.F
namespace Go.Proofs.Ytfiamddinkokbaa.F
open Go.RowKit Go.Shelf Go.Proofs.YtfiamddinkokbaaW.PrintWords
theorem ext_repeat (A0 : Option Addr) (c0 : Nat) (l0 : List Int) (a1 : Int) (r : List Int) (w : World) (hr0 : Kd.C (Kd.int .i64) w A0 l0.length l0) (hc0 : l0.length ≤ c0)
  (h : (if l0.length = 1 ∧ 0 ≤ a1 ∧ a1 ≤ 4000000000 then some (List.replicate a1.toNat (l0.headD 0)) else none) = some r) :
  Calls Try.prog 156 #[.slice A0 l0.length c0, .int .i64 a1] w fun e w' => ∃ v0_ : Value, e = .returned (v0_) ∧ Kd.R (Kd.int .i64) 3 w' w.heap.size (fun _ => True) v0_ r ∧ Below w.heap.size w w' := by
 split at h
 case isFalse => cases h
 case isTrue hl =>
 obtain rfl := Option.some.inj h
 obtain ⟨h1, h2, h3⟩ := hl
 obtain ⟨c, rfl⟩ : ∃ c, l0 = [c] := List.length_eq_one_iff.1 h1
 have := repeat_calls A0 c0 a1.toNat c w hr0 hc0 (by omega)
 rw [show ((a1.toNat : Nat) : Int) = a1 by omega] at this
 exact this
end Go.Proofs.Ytfiamddinkokbaa.F
end

section
set_option linter.unusedVariables false
set_option linter.unusedSimpArgs false
namespace Go.Proofs.Ytfiamddinkokbaa.F
open Go.RowKit Go.Proofs.YtfiamddinkokbaaW.PrintWords Go.Proofs.YtfiamddinkokbaaW.PrintLast Go.Proofs.YtfiamddinkokbaaW.PrintMore
attribute [local go_sem] max2_int min2_int max_two min_two max_three min_three max_four min_four
set_option linter.unusedVariables false
set_option linter.unusedSimpArgs false
def slices_Repeat_int_int.f (l0 : List Int) (a1 : Int) : Option (List Int) := if l0.length = 1 ∧ 0 ≤ a1 ∧ a1 ≤ 4000000000 then some (List.replicate a1.toNat (l0.headD 0)) else none
theorem slices_Repeat_int_int.calls (A0 : Option Addr) (c0 : Nat) (l0 : List Int) (a1 : Int) (r : List Int) (w : World) (hr0 : Kd.C (Kd.int .i64) w A0 l0.length l0) (hc0 : l0.length ≤ c0) (h : slices_Repeat_int_int.f l0 a1 = some r) :
  Calls Try.prog 156 #[.slice A0 l0.length c0, .int .i64 a1] w fun e w' => ∃ v0_ : Value, e = .returned (v0_) ∧ Kd.R (Kd.int .i64) 3 w' w.heap.size (fun _ => True) v0_ r ∧ Below w.heap.size w w' := by
 exact ext_repeat A0 c0 l0 a1 r w hr0 hc0 h
end Go.Proofs.Ytfiamddinkokbaa.F
end

section
set_option linter.unusedVariables false
set_option linter.unusedSimpArgs false
namespace Go.Proofs.Ytfiamddinkokbaa.F
open Go.RowKit Go.Proofs.YtfiamddinkokbaaW.PrintWords Go.Proofs.YtfiamddinkokbaaW.PrintLast Go.Proofs.YtfiamddinkokbaaW.PrintMore
attribute [local go_sem] max2_int min2_int max_two min_two max_three min_three max_four min_four
set_option linter.unusedVariables false
set_option linter.unusedSimpArgs false
mutual
def chunk_table.j0 : Nat → Int → Int → List (S196) → Bool → Option (List Int × Bool)
 | 0, _, _, _, _ => none
 | k + 1, x0, x1, x2, x17 => if x17 = true then (some (([] : List Int), false)) else ((slices_Repeat_int_int.f (([(-1)] : List Int)) x0).bind fun t539 => (chunk_table.l0 k x0 x1 t539 x2 (x2.length : Int) 0 (-1) (-1)))
def chunk_table.l0 : Nat → Int → Int → List Int → List (S196) → Int → Int → Int → Int → Option (List Int × Bool)
 | 0, _, _, _, _, _, _, _, _ => none
 | k + 1, x0, x1, x8, x22, x23, x24, x543000, x543001 => if x24 < x23 then (if 0 ≤ x24 then (if x24 < (x22.length : Int) then (if ((rd_T196 x22 x24).f0) ≤ x543000 then (some (([] : List Int), false)) else (if ((rd_T196 x22 x24).f1) ≤ x543001 then (some (([] : List Int), false)) else (if ((rd_T196 x22 x24).f0) ≥ x0 then (some (([] : List Int), false)) else (if ((rd_T196 x22 x24).f1) ≥ x1 then (some (([] : List Int), false)) else (if 0 ≤ ((rd_T196 x22 x24).f0) then (if ((rd_T196 x22 x24).f0) < (x8.length : Int) then (chunk_table.l0 k x0 x1 (x8.set (((rd_T196 x22 x24).f0) : Int).toNat ((rd_T196 x22 x24).f1)) x22 x23 (wrap64 (x24 + 1)) ((rd_T196 x22 x24).f0) ((rd_T196 x22 x24).f1)) else (none)) else (none)))))) else (none)) else (none)) else (some (x8, true))
end
def chunk_table.f (k : Nat) (a0 : Int) (a1 : Int) (l2 : List (S196)) : Option (List Int × Bool) := if a0 < 0 then (chunk_table.j0 k a0 a1 l2 true) else (chunk_table.j0 k a0 a1 l2 (decide (a1 < 0)))
theorem chunk_table.mono_l : ∀ k, (∀ y0 y1 y2 y3, LeO (chunk_table.j0 k y0 y1 y2 y3) (chunk_table.j0 (k + 1) y0 y1 y2 y3)) ∧ (∀ y0 y1 y2 y3 y4 y5 y6 y7, LeO (chunk_table.l0 k y0 y1 y2 y3 y4 y5 y6 y7) (chunk_table.l0 (k + 1) y0 y1 y2 y3 y4 y5 y6 y7))
 | 0 => ⟨fun _ _ _ _ r h => by simp [chunk_table.j0] at h, fun _ _ _ _ _ _ _ _ r h => by simp [chunk_table.l0] at h⟩
 | k + 1 => by
  obtain ⟨ih0, ih1⟩ := chunk_table.mono_l k
  refine ⟨?_, ?_⟩
  ·intro y0 y1 y2 y3
   unfold chunk_table.j0
   repeat' first
   | (with_reducible exact ih0 _ _ _ _)
   | (with_reducible exact ih1 _ _ _ _ _ _ _ _)
   | (with_reducible exact LeO.refl _)
   | (with_reducible exact LeO.none _)
   | (with_reducible refine LeO.ite ?_ ?_)
   | (with_reducible refine LeO.bind ?_ (fun _ => ?_))
   | exact ih0 _ _ _ _
   | exact ih1 _ _ _ _ _ _ _ _
   | exact LeO.none _
   | refine LeO.ite ?_ ?_
   | refine LeO.bind ?_ (fun _ => ?_)
  ·intro y0 y1 y2 y3 y4 y5 y6 y7
   unfold chunk_table.l0
   repeat' first
   | (with_reducible exact ih0 _ _ _ _)
   | (with_reducible exact ih1 _ _ _ _ _ _ _ _)
   | (with_reducible exact LeO.refl _)
   | (with_reducible exact LeO.none _)
   | (with_reducible refine LeO.ite ?_ ?_)
   | (with_reducible refine LeO.bind ?_ (fun _ => ?_))
   | exact ih0 _ _ _ _
   | exact ih1 _ _ _ _ _ _ _ _
   | exact LeO.none _
   | refine LeO.ite ?_ ?_
   | refine LeO.bind ?_ (fun _ => ?_)
theorem chunk_table.mono : ∀ a0 a1 a2 k, LeO (chunk_table.f k a0 a1 a2) (chunk_table.f (k + 1) a0 a1 a2) := by
 intro a0 a1 a2 k
 obtain ⟨ih0, ih1⟩ := chunk_table.mono_l k
 unfold chunk_table.f
 repeat' first
   | (with_reducible exact ih0 _ _ _ _)
   | (with_reducible exact ih1 _ _ _ _ _ _ _ _)
   | (with_reducible exact LeO.refl _)
   | (with_reducible exact LeO.none _)
   | (with_reducible refine LeO.ite ?_ ?_)
   | (with_reducible refine LeO.bind ?_ (fun _ => ?_))
   | exact ih0 _ _ _ _
   | exact ih1 _ _ _ _ _ _ _ _
   | exact LeO.none _
   | refine LeO.ite ?_ ?_
   | refine LeO.bind ?_ (fun _ => ?_)
set_option maxHeartbeats 8000000 in
set_option maxRecDepth 100000 in
theorem chunk_table.calls (k : Nat) (a0 : Int) (a1 : Int) (A2 : Option Addr) (c2 : Nat) (l2 : List (S196)) (r1 : List Int) (r2 : Bool) (w : World) (hr2 : Kd.C k196 w A2 l2.length l2) (hc2 : l2.length ≤ c2) (h : chunk_table.f k a0 a1 l2 = some (r1, r2)) :
  Calls Try.prog 133 #[.int .i64 a0, .int .i64 a1, .slice A2 l2.length c2] w fun e w' => ∃ v0_ : Value, e = .returned (.tuple #[v0_, .bool r2]) ∧ Kd.R (Kd.int .i64) 3 w' w.heap.size (fun _ => True) v0_ r1 ∧ Below w.heap.size w w' := by
 have hu196 := Try.underlying196
 have HR2 := Aside0.mk hr2
 have HC2 := Aside0.mk hc2
 clear hr2 hc2
 have HB := Aside0.mk (Below.refl w.heap.size w)
 have H : (if a0 < 0 then (chunk_table.j0 k a0 a1 l2 true) else (chunk_table.j0 k a0 a1 l2 (decide (a1 < 0)))) = some (r1, r2) := h
 clear h
 have HC4 := Aside0.mk H
 clear H
 go_enter Try.func133, Try.ntmps133
 go_upto_region 1 with (fail)
 go_cut [17] (fun v17 wc => ∃ (kq : Nat) (x17_3 : Bool), v17 = .bool x17_3 ∧ Aside0 (chunk_table.j0 kq a0 a1 l2 x17_3 = some (r1, r2)) ∧ Aside0 (kq ≤ k) ∧ Aside0 (Below w.heap.size w wc))
 case first =>
  have H := HC4.out
  clear HC4
  by_cases c5 : a0 < 0
  ·rw [if_pos c5] at H
   have c5b0 : decide (a0 < 0) = true := decide_eq_true c5
   clear c5
   (first | rw [c5b0] | (simp only [i64_w, i32_w]; rw [c5b0]) | skip)
   have H' := Aside0.mk H
   clear H
   go_wp2
   go_meet
   case rel => exact ⟨_, (true), (by first | rfl | (simp; done) | (simp [*]; done)), H', ⟨by first | omega | exact Nat.le_refl _⟩, ⟨by repeat (first | (with_reducible first | exact HB.out | apply below_alloc | apply pw_below_drewN | apply below_drew1) | exact HB.out)⟩⟩
  ·rw [if_neg c5] at H
   have c5b0 : decide (a0 < 0) = false := decide_eq_false c5
   clear c5
   (first | rw [c5b0] | (simp only [i64_w, i32_w]; rw [c5b0]) | skip)
   have H' := Aside0.mk H
   clear H
   go_wp2
   go_meet
   case rel => exact ⟨_, (decide (a1 < 0)), (by first | rfl | (simp; done) | (simp [*]; done)), H', ⟨by first | omega | exact Nat.le_refl _⟩, ⟨by repeat (first | (with_reducible first | exact HB.out | apply below_alloc | apply pw_below_drewN | apply below_drew1) | exact HB.out)⟩⟩
 case rest =>
  clear HC4
  try clear c1
  try clear c2
  try clear p2
  try clear c5
  try clear c5b0
  obtain ⟨kq, x17_3, rfl, HA, HJ3, HB⟩ := hcut
  cases kq with
  | zero => exact absurd HA.out (by simp [chunk_table.j0])
  | succ kj3 =>
   have H := HA.out
   clear HA
   simp only [chunk_table.j0] at H
   by_cases c6 : x17_3 = true
   ·subst c6
    have H1 : (some (([] : List Int), false)) = some (r1, r2) := by rw [if_pos rfl] at H; exact H
    clear H
    have H := H1
    clear H1
    simp only [Option.some.injEq, Prod.mk.injEq] at H
    obtain ⟨rfl, rfl⟩ := H
    go_wp2
    go_ret2
    exact ⟨_, by first | rfl | (simp [errW_none, errW_some] <;> rfl) | (simp [*, errW_none, errW_some] <;> rfl), by first | exact Kd.R_nil _ _ _ _ _ | exact Kd.N_nil _ _ _ _ _ | exact Kd.V_nil _ _ _ _ _ | exact Kd.Q_nil _ _ _ _ _ | exact Kd.S_nil _ _ _ _ _, by repeat (first | (with_reducible first | exact HB.out | apply below_alloc | apply pw_below_drewN | apply below_drew1) | exact HB.out)⟩
   ·replace c6 := Bool.eq_false_iff.mpr c6
    subst c6
    have H1 : ((slices_Repeat_int_int.f (([(-1)] : List Int)) a0).bind fun t539 => (chunk_table.l0 kj3 a0 a1 t539 l2 (l2.length : Int) 0 (-1) (-1))) = some (r1, r2) := by rw [if_neg (show ¬ (false = true) by decide)] at H; exact H
    clear H
    have H := H1
    clear H1
    obtain ⟨y536, hy536⟩ : ∃ y_ : List Int, y_ = (([(-1)] : List Int)) := ⟨_, rfl⟩
    replace H : ((slices_Repeat_int_int.f y536 a0).bind fun t539 => (chunk_table.l0 kj3 a0 a1 t539 l2 (l2.length : Int) 0 (-1) (-1))) = some (r1, r2) := by first | (rw [hy536]; with_reducible exact H) | (have H2_ := (Option.bind_some _ _).symm.trans H; rw [hy536]; with_reducible exact H2_) | (have H2_ := (Option.bind_some _ _).symm.trans H; with_reducible exact H2_) | with_reducible exact H | (rw [hy536]; exact H) | exact H
    have Ny536 := Aside0.mk hy536
    clear hy536
    replace H := Option.bind_eq_some_iff.mp H
    obtain ⟨t539, A70, H⟩ := H
    replace H : (chunk_table.l0 kj3 a0 a1 t539 l2 (l2.length : Int) 0 (-1) (-1)) = some (r1, r2) := H
    have A7 := Aside0.mk A70
    clear A70
    have H' := Aside0.mk H
    clear H
    go_wp2_with (first | ((with_reducible refine gate_dst (N := 18) rfl ?_); refine Kd.R_lit (Kd.int .i64) _ 3 ?hg (N := 18) ?hd (xs := ([(-1)] : List Int)) (inner := [.int .i64 (-1)]) (ok := fun _ => True) (okp := fun _ => True) ?hr ?hp (fun _ hk => hk) trivial (Below.refl _ _) (Nat.le_refl _) (by simp) ?_; (case hd => rfl); (case hg => rfl); (case hr => first | (go_simp; done) | (go_simp; rfl)); (case hp => exact (Reps.one (show Kd.M (Kd.int .i64) _ _ _ (-1) [.int .i64 (-1)] from rfl) (Reps.none _ _))); intro v537 w8 ho9 hb hg_ hnew_; clear hg_ hnew_; (first | rw [← Ny536.out] at ho9 | (simp only [Int.reduceToNat] at ho9; rw [← Ny536.out] at ho9)); have n0_ := Aside0.mk (Kd.R_lower ho9 (below_size (by repeat (first | (with_reducible first | exact HB.out | apply below_alloc | apply pw_below_drewN | apply below_drew1) | exact HB.out)))); have n1_ := Aside0.mk (below_step (by repeat (first | (with_reducible first | exact HB.out | apply below_alloc | apply pw_below_drewN | apply below_drew1) | exact HB.out)) hb); clear HB; have HO538 := n0_; have HB := n1_; clear n0_ n1_; clear hb ho9; obtain ⟨Ao10, co10, eo10⟩ := Kd.R_slice HO538.out; subst eo10) | ((with_reducible refine gate_callee (f := 156) rfl ?_); refine goesL_ (some 20) rfl rfl Try.func156 (by kernel_rfl) rfl #[.slice Ao10 y536.length co10, .int .i64 a0] rfl (by (try simp only [List.map_toArray, List.map_cons, List.map_nil]); first | done | rfl | (simp only [List.length_drop, List.length_take]; rfl)) ?_; (with_reducible refine (slices_Repeat_int_int.calls _ _ y536 a0 t539 _ ?side1 ?side2 A7.out).mono ?_); (case side1 => repeat (first | exact (Kd.R_reads' HO538.out).2.2 | (with_reducible refine Kd.C_alloc ?_ _) | (with_reducible refine Kd.C_drewN ?_ _) | (with_reducible refine Kd.C_drew ?_))); (case side2 => exact (Kd.R_reads' HO538.out).2.1); rintro e w11 ⟨v540, rfl, ho0, hb⟩; refine ⟨_, rfl, ?_⟩; have n0_ := Aside0.mk (Kd.R_elder' (by (with_reducible repeat (first | apply Kd.R_alloc | apply Kd.R_drewN | apply Kd.R_drew)); exact HO538.out) (Kd.R_base ho0) hb); have n1_ := Aside0.mk (Kd.R_lower (Kd.R_new' ho0 (Kd.R_lt (by (with_reducible repeat (first | apply Kd.R_alloc | apply Kd.R_drewN | apply Kd.R_drew)); exact HO538.out))) (below_size (by repeat (first | (with_reducible first | exact HB.out | apply below_alloc | apply pw_below_drewN | apply below_drew1) | exact HB.out)))); have n2_ := Aside0.mk (below_step (by repeat (first | (with_reducible first | exact HB.out | apply below_alloc | apply pw_below_drewN | apply below_drew1) | exact HB.out)) hb); clear HO538; clear HB; have HO538 := n0_; have HO541 := n1_; have HB := n2_; clear n0_ n1_ n2_; (try clear hb); (try clear hb2); (try clear hk); (try clear hi); (try clear ho0)) | ((with_reducible refine gate_dst (N := 9) rfl ?_); refine box_event ?hg (N := 9) ?hd (cs := #[.int .i64 0, .int .i64 0]) (t := 196) ?hr ?_; (case hd => rfl); (case hg => rfl); (case hr => first | (go_simp; done) | (go_simp; rfl)); intro gb542 hg w12 hbox hb; have n0_ := Aside0.mk (Kd.R_below (by (with_reducible repeat (first | apply Kd.R_alloc | apply Kd.R_drewN | apply Kd.R_drew)); exact HO538.out) hb); have n1_ := Aside0.mk (Kd.R_below (by (with_reducible repeat (first | apply Kd.R_alloc | apply Kd.R_drewN | apply Kd.R_drew)); exact HO541.out) hb); have n2_ := Aside0.mk (below_step (by repeat (first | (with_reducible first | exact HB.out | apply below_alloc | apply pw_below_drewN | apply below_drew1) | exact HB.out)) hb); have n3_ := Aside0.mk (hbox); have n4_ := Aside0.mk ((by rw [hg]; exact (below_size (by repeat (first | (with_reducible first | exact HB.out | apply below_alloc | apply pw_below_drewN | apply below_drew1) | exact HB.out))) : w.heap.size ≤ gb542)); have n5_ := Aside0.mk ((by rw [hg]; exact (below_size (by repeat (first | (with_reducible first | exact HB.out | apply below_alloc | apply pw_below_drewN | apply below_drew1) | exact HB.out))) : w.heap.size ≤ gb542)); clear HO538; clear HO541; clear HB; have HO538 := n0_; have HO541 := n1_; have HB := n2_; have BK542 := n3_; have GW542 := n4_; have GE542 := n5_; clear n0_ n1_ n2_ n3_ n4_ n5_; clear hb hbox hg; have hcz13_0 : w12.cell? ⟨gb542, 0, none⟩ = some (.int .i64 0) := (blk_cell BK542.out 0).trans rfl; have hcz13_1 : w12.cell? ⟨gb542, 1, none⟩ = some (.int .i64 0) := (blk_cell BK542.out 1).trans rfl; have hfz13_0 := blk_frozen BK542.out 0; have hfz13_1 := blk_frozen BK542.out 1))
    go_loopg [24] kj3 (fun kq v24 w' => ∃ (x8_2 : List Int) (x24_2 : Int) (x543000_2 : Int) (x543001_2 : Int), v24 = .int .i64 x24_2 ∧ Aside0 (chunk_table.l0 kq a0 a1 x8_2 l2 (l2.length : Int) x24_2 x543000_2 x543001_2 = some (r1, r2)) ∧ Aside0 (kq ≤ kj3) ∧ Aside0 (Kd.R (Kd.int .i64) 3 w' w.heap.size (fun _ => True) v540 x8_2) ∧ Aside0 (w'.heap[gb542]? = some (.cells #[.int .i64 x543000_2, .int .i64 x543001_2] 196 (0, 0))) ∧ Aside0 (Below w.heap.size w w'))
    case atStart => exact ⟨(t539), (0), ((-1)), ((-1)), (by first | rfl | (simp; done) | (simp [*]; done)), H', ⟨Nat.le_refl _⟩, ⟨by (with_reducible repeat (first | apply Kd.R_alloc | apply Kd.R_drewN | apply Kd.R_drew)); exact Kd.R_mono (Kd.R_far (p := ⟨gb542, 1, none⟩) (Kd.R_far (p := ⟨gb542, 0, none⟩) (Kd.R_types HO541.out BK542.out (by decide)) (fun _ hk => hk.2) (.int .i64 (-1))) (fun _ hk => hk.2) (.int .i64 (-1))) (fun _ hk => trivial)⟩, ⟨by (with_reducible repeat (first | refine blk_drewN ?_ _ | refine blk_drew ?_ | refine blk_alloc ?_ _)); refine blk_put (cs := #[.int .i64 (-1), .int .i64 0]) ?_ 1 _ rfl; (with_reducible repeat (first | refine blk_drewN ?_ _ | refine blk_drew ?_ | refine blk_alloc ?_ _)); refine blk_put (cs := #[.int .i64 0, .int .i64 0]) ?_ 0 _ rfl; (with_reducible repeat (first | refine blk_drewN ?_ _ | refine blk_drew ?_ | refine blk_alloc ?_ _)); exact BK542.out⟩, ⟨by repeat (first | (with_reducible first | exact HB.out | apply below_alloc | apply pw_below_drewN | apply below_drew1 | refine below_set ?_ GE542.out) | exact HB.out)⟩⟩
    case round =>
     clear H'
     try clear c1
     try clear c2
     try clear p2
     try clear c5
     try clear c5b0
     try clear c6
     try clear c13
     try clear hcz13_0
     try clear hcz13_1
     try clear hfz13_0
     try clear hfz13_1
     try clear p2
     obtain ⟨x8_2, x24_2, x543000_2, x543001_2, rfl, HA, HK2, HO_8, BK542, HB⟩ := hrel
     cases gk with
     | zero => exact absurd HA.out (by simp [chunk_table.l0])
     | succ k2 =>
      have H := HA.out
      clear HA
      simp only [chunk_table.l0] at H
      by_cases c14 : x24_2 < (l2.length : Int)
      ·rw [if_pos c14] at H
       have c14b0 : decide (x24_2 < (l2.length : Int)) = true := decide_eq_true c14
       clear c14
       by_cases c15 : 0 ≤ x24_2
       ·rw [if_pos c15] at H
        have c15b0 : decide (0 ≤ x24_2) = true := decide_eq_true c15
        clear c15
        by_cases c16 : x24_2 < (l2.length : Int)
        ·rw [if_pos c16] at H
         have c16b0 : decide (x24_2 < (l2.length : Int)) = true := decide_eq_true c16
         clear c16
         by_cases c17 : ((rd_T196 l2 x24_2).f0) ≤ x543000_2
         ·rw [if_pos c17] at H
          have c17b0 : decide (((rd_T196 l2 x24_2).f0) ≤ x543000_2) = true := decide_eq_true c17
          clear c17
          simp only [Option.some.injEq, Prod.mk.injEq] at H
          obtain ⟨rfl, rfl⟩ := H
          have p543 : 0 ≤ (x24_2 : Int) := of_decide_eq_true (by first | (with_reducible assumption) | assumption)
          have q543 : x24_2 < (l2.length : Int) := of_decide_eq_true (by first | (with_reducible assumption) | assumption)
          obtain ⟨ad543, e543, hx543_0, hx543_1⟩ := at_T196 HR2.out x24_2 p543 q543
          cases e543
          replace hx543_0 := (HB.out.cell (World.block_lt_of_cell? w _ hx543_0)).trans hx543_0
          replace hx543_1 := (HB.out.cell (World.block_lt_of_cell? w _ hx543_1)).trans hx543_1
          replace p543 := eq_true p543
          replace q543 := eq_true q543
          go_wp2_with (first | ((with_reducible refine gate_dst (N := 11) rfl ?_); refine box_event ?hg (N := 11) ?hd (cs := #[.int .i64 0, .int .i64 0]) (t := 196) ?hr ?_; (case hd => rfl); (case hg => rfl); (case hr => first | (go_simp; done) | (go_simp; rfl)); intro gb544 hg w18 hbox hb; have n0_ := Aside0.mk (Kd.R_below (by (with_reducible repeat (first | apply Kd.R_alloc | apply Kd.R_drewN | apply Kd.R_drew)); exact HO_8.out) hb); have n1_ := Aside0.mk (blk_below (g := gb542) (o := .cells #[.int .i64 x543000_2, .int .i64 x543001_2] 196 (0, 0)) (by (with_reducible repeat (first | refine blk_drewN ?_ _ | refine blk_drew ?_ | refine blk_alloc ?_ _)); exact BK542.out) hb); have n2_ := Aside0.mk (below_step (by repeat (first | (with_reducible first | exact HB.out | apply below_alloc | apply pw_below_drewN | apply below_drew1 | refine below_set ?_ GE542.out) | exact HB.out)) hb); have n3_ := Aside0.mk (hbox); have n4_ := Aside0.mk ((by rw [hg]; exact (below_size (by repeat (first | (with_reducible first | exact HB.out | apply below_alloc | apply pw_below_drewN | apply below_drew1 | refine below_set ?_ GE542.out) | exact HB.out))) : w.heap.size ≤ gb544)); have n5_ := Aside0.mk ((by rw [hg]; exact (below_size (by repeat (first | (with_reducible first | exact HB.out | apply below_alloc | apply pw_below_drewN | apply below_drew1 | refine below_set ?_ GE542.out) | exact HB.out))) : w.heap.size ≤ gb544)); have n6_ := Aside0.mk ((by rw [hg]; exact Nat.ne_of_lt (blk_lt (g := gb542) (o := .cells #[.int .i64 x543000_2, .int .i64 x543001_2] 196 (0, 0)) (by (with_reducible repeat (first | refine blk_drewN ?_ _ | refine blk_drew ?_ | refine blk_alloc ?_ _)); exact BK542.out)) : gb542 ≠ gb544)); have n7_ := Aside0.mk ((by rw [hg]; exact Nat.ne_of_gt (blk_lt (g := gb542) (o := .cells #[.int .i64 x543000_2, .int .i64 x543001_2] 196 (0, 0)) (by (with_reducible repeat (first | refine blk_drewN ?_ _ | refine blk_drew ?_ | refine blk_alloc ?_ _)); exact BK542.out)) : gb544 ≠ gb542)); clear HO_8; clear BK542; clear HB; have HO_8 := n0_; have BK542 := n1_; have HB := n2_; have BK544 := n3_; have GW544 := n4_; have GE544 := n5_; have NB542_544 := n6_; have NB544_542 := n7_; clear n0_ n1_ n2_ n3_ n4_ n5_ n6_ n7_; clear hb hbox hg; have hnb19 := NB544_542.out; have hnc19 := NB542_544.out; have hcz20_0 : w18.cell? ⟨gb544, 0, none⟩ = some (.int .i64 0) := (blk_cell BK544.out 0).trans rfl; have hcz20_1 : w18.cell? ⟨gb544, 1, none⟩ = some (.int .i64 0) := (blk_cell BK544.out 1).trans rfl; have hfz20_0 := blk_frozen BK544.out 0; have hfz20_1 := blk_frozen BK544.out 1; have hcz21_0 : w18.cell? ⟨gb542, 0, none⟩ = some (.int .i64 x543000_2) := (blk_cell BK542.out 0).trans rfl; have hcz21_1 : w18.cell? ⟨gb542, 1, none⟩ = some (.int .i64 x543001_2) := (blk_cell BK542.out 1).trans rfl; have hfz21_0 := blk_frozen BK542.out 0; have hfz21_1 := blk_frozen BK542.out 1))
          go_ret2
          exact ⟨_, by first | rfl | (simp [errW_none, errW_some] <;> rfl) | (simp [*, errW_none, errW_some] <;> rfl), by first | exact Kd.R_nil _ _ _ _ _ | exact Kd.N_nil _ _ _ _ _ | exact Kd.V_nil _ _ _ _ _ | exact Kd.Q_nil _ _ _ _ _ | exact Kd.S_nil _ _ _ _ _, by repeat (first | (with_reducible first | exact HB.out | apply below_alloc | apply pw_below_drewN | apply below_drew1 | refine below_set ?_ GE542.out | refine below_set ?_ GE544.out) | exact HB.out)⟩
         ·rw [if_neg c17] at H
          have c17b0 : decide (((rd_T196 l2 x24_2).f0) ≤ x543000_2) = false := decide_eq_false c17
          clear c17
          by_cases c22 : ((rd_T196 l2 x24_2).f1) ≤ x543001_2
          ·rw [if_pos c22] at H
           have c22b0 : decide (((rd_T196 l2 x24_2).f1) ≤ x543001_2) = true := decide_eq_true c22
           clear c22
           simp only [Option.some.injEq, Prod.mk.injEq] at H
           obtain ⟨rfl, rfl⟩ := H
           have p543 : 0 ≤ (x24_2 : Int) := of_decide_eq_true (by first | (with_reducible assumption) | assumption)
           have q543 : x24_2 < (l2.length : Int) := of_decide_eq_true (by first | (with_reducible assumption) | assumption)
           obtain ⟨ad543, e543, hx543_0, hx543_1⟩ := at_T196 HR2.out x24_2 p543 q543
           cases e543
           replace hx543_0 := (HB.out.cell (World.block_lt_of_cell? w _ hx543_0)).trans hx543_0
           replace hx543_1 := (HB.out.cell (World.block_lt_of_cell? w _ hx543_1)).trans hx543_1
           replace p543 := eq_true p543
           replace q543 := eq_true q543
           go_wp2_with (first | ((with_reducible refine gate_dst (N := 11) rfl ?_); refine box_event ?hg (N := 11) ?hd (cs := #[.int .i64 0, .int .i64 0]) (t := 196) ?hr ?_; (case hd => rfl); (case hg => rfl); (case hr => first | (go_simp; done) | (go_simp; rfl)); intro gb544 hg w23 hbox hb; have n0_ := Aside0.mk (Kd.R_below (by (with_reducible repeat (first | apply Kd.R_alloc | apply Kd.R_drewN | apply Kd.R_drew)); exact HO_8.out) hb); have n1_ := Aside0.mk (blk_below (g := gb542) (o := .cells #[.int .i64 x543000_2, .int .i64 x543001_2] 196 (0, 0)) (by (with_reducible repeat (first | refine blk_drewN ?_ _ | refine blk_drew ?_ | refine blk_alloc ?_ _)); exact BK542.out) hb); have n2_ := Aside0.mk (below_step (by repeat (first | (with_reducible first | exact HB.out | apply below_alloc | apply pw_below_drewN | apply below_drew1 | refine below_set ?_ GE542.out) | exact HB.out)) hb); have n3_ := Aside0.mk (hbox); have n4_ := Aside0.mk ((by rw [hg]; exact (below_size (by repeat (first | (with_reducible first | exact HB.out | apply below_alloc | apply pw_below_drewN | apply below_drew1 | refine below_set ?_ GE542.out) | exact HB.out))) : w.heap.size ≤ gb544)); have n5_ := Aside0.mk ((by rw [hg]; exact (below_size (by repeat (first | (with_reducible first | exact HB.out | apply below_alloc | apply pw_below_drewN | apply below_drew1 | refine below_set ?_ GE542.out) | exact HB.out))) : w.heap.size ≤ gb544)); have n6_ := Aside0.mk ((by rw [hg]; exact Nat.ne_of_lt (blk_lt (g := gb542) (o := .cells #[.int .i64 x543000_2, .int .i64 x543001_2] 196 (0, 0)) (by (with_reducible repeat (first | refine blk_drewN ?_ _ | refine blk_drew ?_ | refine blk_alloc ?_ _)); exact BK542.out)) : gb542 ≠ gb544)); have n7_ := Aside0.mk ((by rw [hg]; exact Nat.ne_of_gt (blk_lt (g := gb542) (o := .cells #[.int .i64 x543000_2, .int .i64 x543001_2] 196 (0, 0)) (by (with_reducible repeat (first | refine blk_drewN ?_ _ | refine blk_drew ?_ | refine blk_alloc ?_ _)); exact BK542.out)) : gb544 ≠ gb542)); clear HO_8; clear BK542; clear HB; have HO_8 := n0_; have BK542 := n1_; have HB := n2_; have BK544 := n3_; have GW544 := n4_; have GE544 := n5_; have NB542_544 := n6_; have NB544_542 := n7_; clear n0_ n1_ n2_ n3_ n4_ n5_ n6_ n7_; clear hb hbox hg; have hnb24 := NB544_542.out; have hnc24 := NB542_544.out; have hcz25_0 : w23.cell? ⟨gb544, 0, none⟩ = some (.int .i64 0) := (blk_cell BK544.out 0).trans rfl; have hcz25_1 : w23.cell? ⟨gb544, 1, none⟩ = some (.int .i64 0) := (blk_cell BK544.out 1).trans rfl; have hfz25_0 := blk_frozen BK544.out 0; have hfz25_1 := blk_frozen BK544.out 1; have hcz26_0 : w23.cell? ⟨gb542, 0, none⟩ = some (.int .i64 x543000_2) := (blk_cell BK542.out 0).trans rfl; have hcz26_1 : w23.cell? ⟨gb542, 1, none⟩ = some (.int .i64 x543001_2) := (blk_cell BK542.out 1).trans rfl; have hfz26_0 := blk_frozen BK542.out 0; have hfz26_1 := blk_frozen BK542.out 1))
           go_ret2
           exact ⟨_, by first | rfl | (simp [errW_none, errW_some] <;> rfl) | (simp [*, errW_none, errW_some] <;> rfl), by first | exact Kd.R_nil _ _ _ _ _ | exact Kd.N_nil _ _ _ _ _ | exact Kd.V_nil _ _ _ _ _ | exact Kd.Q_nil _ _ _ _ _ | exact Kd.S_nil _ _ _ _ _, by repeat (first | (with_reducible first | exact HB.out | apply below_alloc | apply pw_below_drewN | apply below_drew1 | refine below_set ?_ GE542.out | refine below_set ?_ GE544.out) | exact HB.out)⟩
          ·rw [if_neg c22] at H
           have c22b0 : decide (((rd_T196 l2 x24_2).f1) ≤ x543001_2) = false := decide_eq_false c22
           clear c22
           by_cases c27 : ((rd_T196 l2 x24_2).f0) ≥ a0
           ·rw [if_pos c27] at H
            have c27b0 : decide (a0 ≤ ((rd_T196 l2 x24_2).f0)) = true := decide_eq_true c27
            clear c27
            simp only [Option.some.injEq, Prod.mk.injEq] at H
            obtain ⟨rfl, rfl⟩ := H
            have p543 : 0 ≤ (x24_2 : Int) := of_decide_eq_true (by first | (with_reducible assumption) | assumption)
            have q543 : x24_2 < (l2.length : Int) := of_decide_eq_true (by first | (with_reducible assumption) | assumption)
            obtain ⟨ad543, e543, hx543_0, hx543_1⟩ := at_T196 HR2.out x24_2 p543 q543
            cases e543
            replace hx543_0 := (HB.out.cell (World.block_lt_of_cell? w _ hx543_0)).trans hx543_0
            replace hx543_1 := (HB.out.cell (World.block_lt_of_cell? w _ hx543_1)).trans hx543_1
            replace p543 := eq_true p543
            replace q543 := eq_true q543
            go_wp2_with (first | ((with_reducible refine gate_dst (N := 11) rfl ?_); refine box_event ?hg (N := 11) ?hd (cs := #[.int .i64 0, .int .i64 0]) (t := 196) ?hr ?_; (case hd => rfl); (case hg => rfl); (case hr => first | (go_simp; done) | (go_simp; rfl)); intro gb544 hg w28 hbox hb; have n0_ := Aside0.mk (Kd.R_below (by (with_reducible repeat (first | apply Kd.R_alloc | apply Kd.R_drewN | apply Kd.R_drew)); exact HO_8.out) hb); have n1_ := Aside0.mk (blk_below (g := gb542) (o := .cells #[.int .i64 x543000_2, .int .i64 x543001_2] 196 (0, 0)) (by (with_reducible repeat (first | refine blk_drewN ?_ _ | refine blk_drew ?_ | refine blk_alloc ?_ _)); exact BK542.out) hb); have n2_ := Aside0.mk (below_step (by repeat (first | (with_reducible first | exact HB.out | apply below_alloc | apply pw_below_drewN | apply below_drew1 | refine below_set ?_ GE542.out) | exact HB.out)) hb); have n3_ := Aside0.mk (hbox); have n4_ := Aside0.mk ((by rw [hg]; exact (below_size (by repeat (first | (with_reducible first | exact HB.out | apply below_alloc | apply pw_below_drewN | apply below_drew1 | refine below_set ?_ GE542.out) | exact HB.out))) : w.heap.size ≤ gb544)); have n5_ := Aside0.mk ((by rw [hg]; exact (below_size (by repeat (first | (with_reducible first | exact HB.out | apply below_alloc | apply pw_below_drewN | apply below_drew1 | refine below_set ?_ GE542.out) | exact HB.out))) : w.heap.size ≤ gb544)); have n6_ := Aside0.mk ((by rw [hg]; exact Nat.ne_of_lt (blk_lt (g := gb542) (o := .cells #[.int .i64 x543000_2, .int .i64 x543001_2] 196 (0, 0)) (by (with_reducible repeat (first | refine blk_drewN ?_ _ | refine blk_drew ?_ | refine blk_alloc ?_ _)); exact BK542.out)) : gb542 ≠ gb544)); have n7_ := Aside0.mk ((by rw [hg]; exact Nat.ne_of_gt (blk_lt (g := gb542) (o := .cells #[.int .i64 x543000_2, .int .i64 x543001_2] 196 (0, 0)) (by (with_reducible repeat (first | refine blk_drewN ?_ _ | refine blk_drew ?_ | refine blk_alloc ?_ _)); exact BK542.out)) : gb544 ≠ gb542)); clear HO_8; clear BK542; clear HB; have HO_8 := n0_; have BK542 := n1_; have HB := n2_; have BK544 := n3_; have GW544 := n4_; have GE544 := n5_; have NB542_544 := n6_; have NB544_542 := n7_; clear n0_ n1_ n2_ n3_ n4_ n5_ n6_ n7_; clear hb hbox hg; have hnb29 := NB544_542.out; have hnc29 := NB542_544.out; have hcz30_0 : w28.cell? ⟨gb544, 0, none⟩ = some (.int .i64 0) := (blk_cell BK544.out 0).trans rfl; have hcz30_1 : w28.cell? ⟨gb544, 1, none⟩ = some (.int .i64 0) := (blk_cell BK544.out 1).trans rfl; have hfz30_0 := blk_frozen BK544.out 0; have hfz30_1 := blk_frozen BK544.out 1; have hcz31_0 : w28.cell? ⟨gb542, 0, none⟩ = some (.int .i64 x543000_2) := (blk_cell BK542.out 0).trans rfl; have hcz31_1 : w28.cell? ⟨gb542, 1, none⟩ = some (.int .i64 x543001_2) := (blk_cell BK542.out 1).trans rfl; have hfz31_0 := blk_frozen BK542.out 0; have hfz31_1 := blk_frozen BK542.out 1))
            go_ret2
            exact ⟨_, by first | rfl | (simp [errW_none, errW_some] <;> rfl) | (simp [*, errW_none, errW_some] <;> rfl), by first | exact Kd.R_nil _ _ _ _ _ | exact Kd.N_nil _ _ _ _ _ | exact Kd.V_nil _ _ _ _ _ | exact Kd.Q_nil _ _ _ _ _ | exact Kd.S_nil _ _ _ _ _, by repeat (first | (with_reducible first | exact HB.out | apply below_alloc | apply pw_below_drewN | apply below_drew1 | refine below_set ?_ GE542.out | refine below_set ?_ GE544.out) | exact HB.out)⟩
           ·rw [if_neg c27] at H
            have c27b0 : decide (a0 ≤ ((rd_T196 l2 x24_2).f0)) = false := decide_eq_false c27
            clear c27
            by_cases c32 : ((rd_T196 l2 x24_2).f1) ≥ a1
            ·rw [if_pos c32] at H
             have c32b0 : decide (a1 ≤ ((rd_T196 l2 x24_2).f1)) = true := decide_eq_true c32
             clear c32
             simp only [Option.some.injEq, Prod.mk.injEq] at H
             obtain ⟨rfl, rfl⟩ := H
             have p543 : 0 ≤ (x24_2 : Int) := of_decide_eq_true (by first | (with_reducible assumption) | assumption)
             have q543 : x24_2 < (l2.length : Int) := of_decide_eq_true (by first | (with_reducible assumption) | assumption)
             obtain ⟨ad543, e543, hx543_0, hx543_1⟩ := at_T196 HR2.out x24_2 p543 q543
             cases e543
             replace hx543_0 := (HB.out.cell (World.block_lt_of_cell? w _ hx543_0)).trans hx543_0
             replace hx543_1 := (HB.out.cell (World.block_lt_of_cell? w _ hx543_1)).trans hx543_1
             replace p543 := eq_true p543
             replace q543 := eq_true q543
             go_wp2_with (first | ((with_reducible refine gate_dst (N := 11) rfl ?_); refine box_event ?hg (N := 11) ?hd (cs := #[.int .i64 0, .int .i64 0]) (t := 196) ?hr ?_; (case hd => rfl); (case hg => rfl); (case hr => first | (go_simp; done) | (go_simp; rfl)); intro gb544 hg w33 hbox hb; have n0_ := Aside0.mk (Kd.R_below (by (with_reducible repeat (first | apply Kd.R_alloc | apply Kd.R_drewN | apply Kd.R_drew)); exact HO_8.out) hb); have n1_ := Aside0.mk (blk_below (g := gb542) (o := .cells #[.int .i64 x543000_2, .int .i64 x543001_2] 196 (0, 0)) (by (with_reducible repeat (first | refine blk_drewN ?_ _ | refine blk_drew ?_ | refine blk_alloc ?_ _)); exact BK542.out) hb); have n2_ := Aside0.mk (below_step (by repeat (first | (with_reducible first | exact HB.out | apply below_alloc | apply pw_below_drewN | apply below_drew1 | refine below_set ?_ GE542.out) | exact HB.out)) hb); have n3_ := Aside0.mk (hbox); have n4_ := Aside0.mk ((by rw [hg]; exact (below_size (by repeat (first | (with_reducible first | exact HB.out | apply below_alloc | apply pw_below_drewN | apply below_drew1 | refine below_set ?_ GE542.out) | exact HB.out))) : w.heap.size ≤ gb544)); have n5_ := Aside0.mk ((by rw [hg]; exact (below_size (by repeat (first | (with_reducible first | exact HB.out | apply below_alloc | apply pw_below_drewN | apply below_drew1 | refine below_set ?_ GE542.out) | exact HB.out))) : w.heap.size ≤ gb544)); have n6_ := Aside0.mk ((by rw [hg]; exact Nat.ne_of_lt (blk_lt (g := gb542) (o := .cells #[.int .i64 x543000_2, .int .i64 x543001_2] 196 (0, 0)) (by (with_reducible repeat (first | refine blk_drewN ?_ _ | refine blk_drew ?_ | refine blk_alloc ?_ _)); exact BK542.out)) : gb542 ≠ gb544)); have n7_ := Aside0.mk ((by rw [hg]; exact Nat.ne_of_gt (blk_lt (g := gb542) (o := .cells #[.int .i64 x543000_2, .int .i64 x543001_2] 196 (0, 0)) (by (with_reducible repeat (first | refine blk_drewN ?_ _ | refine blk_drew ?_ | refine blk_alloc ?_ _)); exact BK542.out)) : gb544 ≠ gb542)); clear HO_8; clear BK542; clear HB; have HO_8 := n0_; have BK542 := n1_; have HB := n2_; have BK544 := n3_; have GW544 := n4_; have GE544 := n5_; have NB542_544 := n6_; have NB544_542 := n7_; clear n0_ n1_ n2_ n3_ n4_ n5_ n6_ n7_; clear hb hbox hg; have hnb34 := NB544_542.out; have hnc34 := NB542_544.out; have hcz35_0 : w33.cell? ⟨gb544, 0, none⟩ = some (.int .i64 0) := (blk_cell BK544.out 0).trans rfl; have hcz35_1 : w33.cell? ⟨gb544, 1, none⟩ = some (.int .i64 0) := (blk_cell BK544.out 1).trans rfl; have hfz35_0 := blk_frozen BK544.out 0; have hfz35_1 := blk_frozen BK544.out 1; have hcz36_0 : w33.cell? ⟨gb542, 0, none⟩ = some (.int .i64 x543000_2) := (blk_cell BK542.out 0).trans rfl; have hcz36_1 : w33.cell? ⟨gb542, 1, none⟩ = some (.int .i64 x543001_2) := (blk_cell BK542.out 1).trans rfl; have hfz36_0 := blk_frozen BK542.out 0; have hfz36_1 := blk_frozen BK542.out 1))
             go_ret2
             exact ⟨_, by first | rfl | (simp [errW_none, errW_some] <;> rfl) | (simp [*, errW_none, errW_some] <;> rfl), by first | exact Kd.R_nil _ _ _ _ _ | exact Kd.N_nil _ _ _ _ _ | exact Kd.V_nil _ _ _ _ _ | exact Kd.Q_nil _ _ _ _ _ | exact Kd.S_nil _ _ _ _ _, by repeat (first | (with_reducible first | exact HB.out | apply below_alloc | apply pw_below_drewN | apply below_drew1 | refine below_set ?_ GE542.out | refine below_set ?_ GE544.out) | exact HB.out)⟩
            ·rw [if_neg c32] at H
             have c32b0 : decide (a1 ≤ ((rd_T196 l2 x24_2).f1)) = false := decide_eq_false c32
             clear c32
             by_cases c37 : 0 ≤ ((rd_T196 l2 x24_2).f0)
             ·rw [if_pos c37] at H
              have c37b0 : decide (0 ≤ ((rd_T196 l2 x24_2).f0)) = true := decide_eq_true c37
              clear c37
              by_cases c38 : ((rd_T196 l2 x24_2).f0) < (x8_2.length : Int)
              ·rw [if_pos c38] at H
               have c38b0 : decide (((rd_T196 l2 x24_2).f0) < (x8_2.length : Int)) = true := decide_eq_true c38
               clear c38
               obtain ⟨y545, hy545⟩ : ∃ y_ : List Int, y_ = (x8_2.set (((rd_T196 l2 x24_2).f0) : Int).toNat ((rd_T196 l2 x24_2).f1)) := ⟨_, rfl⟩
               replace H : (chunk_table.l0 k2 a0 a1 y545 l2 (l2.length : Int) (wrap64 (x24_2 + 1)) ((rd_T196 l2 x24_2).f0) ((rd_T196 l2 x24_2).f1)) = some (r1, r2) := by first | (rw [hy545]; with_reducible exact H) | (have H2_ := (Option.bind_some _ _).symm.trans H; rw [hy545]; with_reducible exact H2_) | (have H2_ := (Option.bind_some _ _).symm.trans H; with_reducible exact H2_) | with_reducible exact H | (rw [hy545]; exact H) | exact H
               have Ny545 := Aside0.mk hy545
               clear hy545
               have H' := Aside0.mk H
               clear H
               have p543 : 0 ≤ (x24_2 : Int) := of_decide_eq_true (by first | (with_reducible assumption) | assumption)
               have q543 : x24_2 < (l2.length : Int) := of_decide_eq_true (by first | (with_reducible assumption) | assumption)
               obtain ⟨ad543, e543, hx543_0, hx543_1⟩ := at_T196 HR2.out x24_2 p543 q543
               cases e543
               replace hx543_0 := (HB.out.cell (World.block_lt_of_cell? w _ hx543_0)).trans hx543_0
               replace hx543_1 := (HB.out.cell (World.block_lt_of_cell? w _ hx543_1)).trans hx543_1
               replace p543 := eq_true p543
               replace q543 := eq_true q543
               go_wp2_with (first | ((with_reducible refine gate_dst (N := 11) rfl ?_); refine box_event ?hg (N := 11) ?hd (cs := #[.int .i64 0, .int .i64 0]) (t := 196) ?hr ?_; (case hd => rfl); (case hg => rfl); (case hr => first | (go_simp; done) | (go_simp; rfl)); intro gb544 hg w40 hbox hb; have n0_ := Aside0.mk (Kd.R_below (by (with_reducible repeat (first | apply Kd.R_alloc | apply Kd.R_drewN | apply Kd.R_drew)); exact HO_8.out) hb); have n1_ := Aside0.mk (blk_below (g := gb542) (o := .cells #[.int .i64 x543000_2, .int .i64 x543001_2] 196 (0, 0)) (by (with_reducible repeat (first | refine blk_drewN ?_ _ | refine blk_drew ?_ | refine blk_alloc ?_ _)); exact BK542.out) hb); have n2_ := Aside0.mk (below_step (by repeat (first | (with_reducible first | exact HB.out | apply below_alloc | apply pw_below_drewN | apply below_drew1 | refine below_set ?_ GE542.out) | exact HB.out)) hb); have n3_ := Aside0.mk (hbox); have n4_ := Aside0.mk ((by rw [hg]; exact (below_size (by repeat (first | (with_reducible first | exact HB.out | apply below_alloc | apply pw_below_drewN | apply below_drew1 | refine below_set ?_ GE542.out) | exact HB.out))) : w.heap.size ≤ gb544)); have n5_ := Aside0.mk ((by rw [hg]; exact (below_size (by repeat (first | (with_reducible first | exact HB.out | apply below_alloc | apply pw_below_drewN | apply below_drew1 | refine below_set ?_ GE542.out) | exact HB.out))) : w.heap.size ≤ gb544)); have n6_ := Aside0.mk ((by rw [hg]; exact Nat.ne_of_lt (blk_lt (g := gb542) (o := .cells #[.int .i64 x543000_2, .int .i64 x543001_2] 196 (0, 0)) (by (with_reducible repeat (first | refine blk_drewN ?_ _ | refine blk_drew ?_ | refine blk_alloc ?_ _)); exact BK542.out)) : gb542 ≠ gb544)); have n7_ := Aside0.mk ((by rw [hg]; exact Nat.ne_of_gt (blk_lt (g := gb542) (o := .cells #[.int .i64 x543000_2, .int .i64 x543001_2] 196 (0, 0)) (by (with_reducible repeat (first | refine blk_drewN ?_ _ | refine blk_drew ?_ | refine blk_alloc ?_ _)); exact BK542.out)) : gb544 ≠ gb542)); clear HO_8; clear BK542; clear HB; have HO_8 := n0_; have BK542 := n1_; have HB := n2_; have BK544 := n3_; have GW544 := n4_; have GE544 := n5_; have NB542_544 := n6_; have NB544_542 := n7_; clear n0_ n1_ n2_ n3_ n4_ n5_ n6_ n7_; clear hb hbox hg; have hnb41 := NB544_542.out; have hnc41 := NB542_544.out; have hcz42_0 : w40.cell? ⟨gb544, 0, none⟩ = some (.int .i64 0) := (blk_cell BK544.out 0).trans rfl; have hcz42_1 : w40.cell? ⟨gb544, 1, none⟩ = some (.int .i64 0) := (blk_cell BK544.out 1).trans rfl; have hfz42_0 := blk_frozen BK544.out 0; have hfz42_1 := blk_frozen BK544.out 1) | ((with_reducible refine gate_store (t := 196) (p := 11) rfl ?_); refine store_event (t := 196) (p := 11) (v := ?vo_w43) (w1 := ((w40.setCell ⟨gb544, 0, none⟩ (.int .i64 ((rd_T196 l2 x24_2).f0))).setCell ⟨gb544, 1, none⟩ (.int .i64 ((rd_T196 l2 x24_2).f1)))) ?hg ?ho ?hn ?hr ?_; (case ho => rfl); (case hg => rfl); (case hn => rfl); (case hr => first | (go_simp; done) | (go_simp; rfl)); intro w43 hw; have n0_ : Aside0 (Kd.R (Kd.int .i64) 3 w43 w.heap.size (fun _ => True) v540 x8_2) := ⟨(by rw [hw]; exact (by (with_reducible repeat (first | apply Kd.R_alloc | apply Kd.R_drewN | apply Kd.R_drew)); exact Kd.R_mono (Kd.R_far (p := ⟨gb544, 1, none⟩) (Kd.R_far (p := ⟨gb544, 0, none⟩) (Kd.R_types HO_8.out BK544.out (by decide)) (fun _ hk => hk.2) (.int .i64 ((rd_T196 l2 x24_2).f0))) (fun _ hk => hk.2) (.int .i64 ((rd_T196 l2 x24_2).f1))) (fun _ hk => trivial)))⟩; have n1_ : Aside0 (w43.heap[gb542]? = some (.cells #[.int .i64 x543000_2, .int .i64 x543001_2] 196 (0, 0))) := ⟨(by rw [hw]; exact (by (with_reducible repeat (first | refine blk_drewN ?_ _ | refine blk_drew ?_ | refine blk_alloc ?_ _)); refine blk_far ?_ NB542_544.out _; (with_reducible repeat (first | refine blk_drewN ?_ _ | refine blk_drew ?_ | refine blk_alloc ?_ _)); refine blk_far ?_ NB542_544.out _; (with_reducible repeat (first | refine blk_drewN ?_ _ | refine blk_drew ?_ | refine blk_alloc ?_ _)); exact BK542.out))⟩; have n2_ : Aside0 (w43.heap[gb544]? = some (.cells #[.int .i64 ((rd_T196 l2 x24_2).f0), .int .i64 ((rd_T196 l2 x24_2).f1)] 196 (0, 0))) := ⟨(by rw [hw]; exact (by (with_reducible repeat (first | refine blk_drewN ?_ _ | refine blk_drew ?_ | refine blk_alloc ?_ _)); refine blk_put (cs := #[.int .i64 ((rd_T196 l2 x24_2).f0), .int .i64 0]) ?_ 1 _ rfl; (with_reducible repeat (first | refine blk_drewN ?_ _ | refine blk_drew ?_ | refine blk_alloc ?_ _)); refine blk_put (cs := #[.int .i64 0, .int .i64 0]) ?_ 0 _ rfl; (with_reducible repeat (first | refine blk_drewN ?_ _ | refine blk_drew ?_ | refine blk_alloc ?_ _)); exact BK544.out))⟩; have n3_ : Aside0 (Below w.heap.size w w43) := ⟨(by rw [hw]; exact (by repeat (first | (with_reducible first | exact HB.out | apply below_alloc | apply pw_below_drewN | apply below_drew1 | refine below_set ?_ GE542.out | refine below_set ?_ GE544.out) | exact HB.out)))⟩; clear hw; clear HO_8; clear BK542; clear BK544; clear HB; have HO_8 := n0_; have BK542 := n1_; have BK544 := n2_; have HB := n3_; clear n0_ n1_ n2_ n3_; have hcz44_0 : w43.cell? ⟨gb544, 0, none⟩ = some (.int .i64 ((rd_T196 l2 x24_2).f0)) := (blk_cell BK544.out 0).trans rfl; have hcz44_1 : w43.cell? ⟨gb544, 1, none⟩ = some (.int .i64 ((rd_T196 l2 x24_2).f1)) := (blk_cell BK544.out 1).trans rfl; have hfz44_0 := blk_frozen BK544.out 0; have hfz44_1 := blk_frozen BK544.out 1; have hcz45_0 : w43.cell? ⟨gb542, 0, none⟩ = some (.int .i64 x543000_2) := (blk_cell BK542.out 0).trans rfl; have hcz45_1 : w43.cell? ⟨gb542, 1, none⟩ = some (.int .i64 x543001_2) := (blk_cell BK542.out 1).trans rfl; have hfz45_0 := blk_frozen BK542.out 0; have hfz45_1 := blk_frozen BK542.out 1; have p39 : 0 ≤ (((rd_T196 l2 x24_2).f0) : Int) := of_decide_eq_true (by first | (with_reducible assumption) | assumption); have q39 : (((rd_T196 l2 x24_2).f0) : Int) < ((x8_2.length : Int) : Int) := of_decide_eq_true (by first | (with_reducible assumption) | assumption); obtain ⟨go39, co39, eo39, gb39, gl39, cl39, HG39⟩ := Kd.R_form HO_8.out (by omega); (first | cases eo39 | (injection eo39 with ea_ en_ ec_; (first | subst ea_ | (injection ea_ with ea_; subst ea_)); subst ec_; clear en_)); have GB39 := Aside0.mk gb39; have GG39 := Aside0.mk HG39; clear gb39 gl39 HG39; obtain ⟨hx39_0, hf39_0⟩ := Kd.R_celln 0 HO_8.out (((rd_T196 l2 x24_2).f0) : Int) p39 q39; replace p39 := eq_true p39; replace q39 := eq_true q39; obtain ⟨hy46_, hz46_⟩ := Kd.R_celln 0 HO_8.out (((rd_T196 l2 x24_2).f0) : Int) (of_decide_eq_true (by first | (with_reducible assumption) | assumption)) (of_decide_eq_true (by first | (with_reducible assumption) | assumption)); have HP46 := Kd.R_putg HO_8.out (((rd_T196 l2 x24_2).f0) : Int) ((rd_T196 l2 x24_2).f1)) | ((with_reducible refine gate_store (t := 3) (p := 57) rfl ?_); refine store_event (t := 3) (p := 57) (v := ?vo_w47) (w1 := (w43.setCell ⟨go39, (((rd_T196 l2 x24_2).f0) : Int).toNat, none⟩ (.int .i64 ((rd_T196 l2 x24_2).f1)))) ?hg ?ho ?hn ?hr ?_; (case ho => rfl); (case hg => rfl); (case hn => rfl); (case hr => first | (go_simp; done) | (go_simp; rfl)); intro w47 hw; have hg : w43.grownBy w47 (some go39) := (by rw [hw]; exact HP46.2); have hp_ : Kd.R (Kd.int .i64) 3 w47 w.heap.size (fun _ => True) (.slice (some ⟨go39, 0, none⟩) x8_2.length co39) y545 := (by rw [hw, Ny545.out]; exact HP46.1); clear HP46; have n0_ := Aside0.mk (hp_); have n1_ := Aside0.mk (blk_grown (g := gb542) (o := .cells #[.int .i64 x543000_2, .int .i64 x543001_2] 196 (0, 0)) (by (with_reducible repeat (first | refine blk_drewN ?_ _ | refine blk_drew ?_ | refine blk_alloc ?_ _)); exact BK542.out) hg (Kd.R_ne HO_8.out BK542.out (by decide))); have n2_ := Aside0.mk (blk_grown (g := gb544) (o := .cells #[.int .i64 ((rd_T196 l2 x24_2).f0), .int .i64 ((rd_T196 l2 x24_2).f1)] 196 (0, 0)) (by (with_reducible repeat (first | refine blk_drewN ?_ _ | refine blk_drew ?_ | refine blk_alloc ?_ _)); exact BK544.out) hg (Kd.R_ne HO_8.out BK544.out (by decide))); have n3_ := Aside0.mk ((by rw [hw]; exact below_set (HB.out) GB39.out : Below w.heap.size w w47)); clear HO_8; clear BK542; clear BK544; clear HB; have HO_8 := n0_; have BK542 := n1_; have BK544 := n2_; have HB := n3_; clear n0_ n1_ n2_ n3_; clear hg hw hp_; have hcz48_0 : w47.cell? ⟨gb544, 0, none⟩ = some (.int .i64 ((rd_T196 l2 x24_2).f0)) := (blk_cell BK544.out 0).trans rfl; have hcz48_1 : w47.cell? ⟨gb544, 1, none⟩ = some (.int .i64 ((rd_T196 l2 x24_2).f1)) := (blk_cell BK544.out 1).trans rfl; have hfz48_0 := blk_frozen BK544.out 0; have hfz48_1 := blk_frozen BK544.out 1; have hcz49_0 : w47.cell? ⟨gb542, 0, none⟩ = some (.int .i64 x543000_2) := (blk_cell BK542.out 0).trans rfl; have hcz49_1 : w47.cell? ⟨gb542, 1, none⟩ = some (.int .i64 x543001_2) := (blk_cell BK542.out 1).trans rfl; have hfz49_0 := blk_frozen BK542.out 0; have hfz49_1 := blk_frozen BK542.out 1))
               go_roundg k2
               case measure => have := HJ3.out; have := HK2.out; omega
               case rel => exact ⟨(y545), (wrap64 (x24_2 + 1)), ((rd_T196 l2 x24_2).f0), ((rd_T196 l2 x24_2).f1), (by first | rfl | (simp; done) | (simp [*]; done)), H', ⟨by have := HJ3.out; have := HK2.out; omega⟩, ⟨by (with_reducible repeat (first | apply Kd.R_alloc | apply Kd.R_drewN | apply Kd.R_drew)); exact Kd.R_mono (Kd.R_far (p := ⟨gb542, 1, none⟩) (Kd.R_far (p := ⟨gb542, 0, none⟩) (Kd.R_types HO_8.out BK542.out (by decide)) (fun _ hk => hk.2) (.int .i64 ((rd_T196 l2 x24_2).f0))) (fun _ hk => hk.2) (.int .i64 ((rd_T196 l2 x24_2).f1))) (fun _ hk => trivial)⟩, ⟨by (with_reducible repeat (first | refine blk_drewN ?_ _ | refine blk_drew ?_ | refine blk_alloc ?_ _)); refine blk_put (cs := #[.int .i64 ((rd_T196 l2 x24_2).f0), .int .i64 x543001_2]) ?_ 1 _ rfl; (with_reducible repeat (first | refine blk_drewN ?_ _ | refine blk_drew ?_ | refine blk_alloc ?_ _)); refine blk_put (cs := #[.int .i64 x543000_2, .int .i64 x543001_2]) ?_ 0 _ rfl; (with_reducible repeat (first | refine blk_drewN ?_ _ | refine blk_drew ?_ | refine blk_alloc ?_ _)); exact BK542.out⟩, ⟨by repeat (first | (with_reducible first | exact HB.out | apply below_alloc | apply pw_below_drewN | apply below_drew1 | refine below_set ?_ GE542.out | refine below_set ?_ GE544.out) | exact HB.out)⟩⟩
              ·rw [if_neg c38] at H
               exact absurd H (by simp)
             ·rw [if_neg c37] at H
              exact absurd H (by simp)
        ·rw [if_neg c16] at H
         exact absurd H (by simp)
       ·rw [if_neg c15] at H
        exact absurd H (by simp)
      ·rw [if_neg c14] at H
       have c14b0 : decide (x24_2 < (l2.length : Int)) = false := decide_eq_false c14
       clear c14
       simp only [Option.some.injEq, Prod.mk.injEq] at H
       obtain ⟨rfl, rfl⟩ := H
       go_wp2
       go_ret2
       exact ⟨_, by first | rfl | (simp [errW_none, errW_some] <;> rfl) | (simp [*, errW_none, errW_some] <;> rfl), by (with_reducible repeat (first | apply Kd.R_alloc | apply Kd.R_drewN | apply Kd.R_drew)); exact HO_8.out, by repeat (first | (with_reducible first | exact HB.out | apply below_alloc | apply pw_below_drewN | apply below_drew1 | refine below_set ?_ GE542.out) | exact HB.out)⟩
end Go.Proofs.Ytfiamddinkokbaa.F
end

section
set_option linter.unusedVariables false
set_option linter.unusedSimpArgs false
namespace Go.Proofs.Ytfiamddinkokbaa.F
open Go.RowKit Go.Proofs.YtfiamddinkokbaaW.PrintWords Go.Proofs.YtfiamddinkokbaaW.PrintLast Go.Proofs.YtfiamddinkokbaaW.PrintMore
attribute [local go_sem] max2_int min2_int max_two min_two max_three min_three max_four min_four
set_option linter.unusedVariables false
set_option linter.unusedSimpArgs false
def IsS173 (w0 W : World) (g : Nat) (f0 : List Int) (f1 : List Int) (f2 : Int) (f3 : Int) (f4 : Int) : Prop := ∃ A0 c0, ∃ A1 c1, W.heap[g]? = some (.cells #[.slice A0 f0.length c0, .slice A1 f1.length c1, .int .i64 f2, .int .i64 f3, .int .i64 f4] 173 (0, 0)) ∧ w0.heap.size ≤ g ∧ Kd.C (Kd.int .i64) w0 A0 f0.length f0 ∧ Kd.C (Kd.int .i64) w0 A1 f1.length f1
theorem IsS173.grown {w0 W : World} {g : Nat} {f0 : List Int} {f1 : List Int} {f2 : Int} {f3 : Int} {f4 : Int} {W1 : World} {row : Option Nat} (h : IsS173 w0 W g f0 f1 f2 f3 f4) (hw : W.grownBy W1 row) (hne : some g ≠ row) : IsS173 w0 W1 g f0 f1 f2 f3 f4 := by
 obtain ⟨A0, c0, A1, c1, hb, hg, hr0, hr1⟩ := h
 exact ⟨A0, c0, A1, c1, blk_grown hb hw hne, hg, hr0, hr1⟩
theorem IsS173.fresh {w0 W : World} {g : Nat} {f0 : List Int} {f1 : List Int} {f2 : Int} {f3 : Int} {f4 : Int} (h : IsS173 w0 W g f0 f1 f2 f3 f4) : ∀ k, W.heap.size ≤ k → k ≠ g := by
 obtain ⟨A0, c0, A1, c1, hb, hg, hr0, hr1⟩ := h
 exact Kd.freshB hb
theorem IsS173.kept {w0 W : World} {g : Nat} {f0 : List Int} {f1 : List Int} {f2 : Int} {f3 : Int} {f4 : Int} {W1 : World} {S : Nat → Prop} (h : IsS173 w0 W g f0 f1 f2 f3 f4) (hk : Kept W W1 S) (hne : ¬ S g) : IsS173 w0 W1 g f0 f1 f2 f3 f4 := by
 obtain ⟨A0, c0, A1, c1, hb, hg, hr0, hr1⟩ := h
 exact ⟨A0, c0, A1, c1, blk_kept hb hk hne, hg, hr0, hr1⟩
theorem IsS173.below {w0 W : World} {g : Nat} {f0 : List Int} {f1 : List Int} {f2 : Int} {f3 : Int} {f4 : Int} {W1 : World} (h : IsS173 w0 W g f0 f1 f2 f3 f4) (hw : Below W.heap.size W W1) : IsS173 w0 W1 g f0 f1 f2 f3 f4 := h.grown (grown_of_below hw none) (by simp)
theorem IsS173.alloc {w0 W : World} {g : Nat} {f0 : List Int} {f1 : List Int} {f2 : Int} {f3 : Int} {f4 : Int} (h : IsS173 w0 W g f0 f1 f2 f3 f4) (o : Obj) : IsS173 w0 (W.alloc o) g f0 f1 f2 f3 f4 := h.below (below_alloc (Below.refl _ _) o)
theorem IsS173.drewN {w0 W : World} {g : Nat} {f0 : List Int} {f1 : List Int} {f2 : Int} {f3 : Int} {f4 : Int} (h : IsS173 w0 W g f0 f1 f2 f3 f4) (m : Nat) : IsS173 w0 (W.drewN m) g f0 f1 f2 f3 f4 := h
theorem IsS173.drew {w0 W : World} {g : Nat} {f0 : List Int} {f1 : List Int} {f2 : Int} {f3 : Int} {f4 : Int} (h : IsS173 w0 W g f0 f1 f2 f3 f4) : IsS173 w0 W.drew g f0 f1 f2 f3 f4 := h
theorem IsS173.at_ {w0 W : World} {g : Nat} {f0 : List Int} {f1 : List Int} {f2 : Int} {f3 : Int} {f4 : Int} {w' : World} {m : Nat} (hq : W.drewN m = w') (h : IsS173 w0 W g f0 f1 f2 f3 f4) : IsS173 w0 w' g f0 f1 f2 f3 f4 := by subst hq; exact IsS173.drewN h m
theorem IsS173.apart {w0 W : World} {g : Nat} {f0 : List Int} {f1 : List Int} {f2 : Int} {f3 : Int} {f4 : Int} {α : Type} {d : Kd α} {e : Nat} {base : Nat} {ok : Nat → Prop} {v : Value} {xs : List α} (h : IsS173 w0 W g f0 f1 f2 f3 f4) (ho : d.R e W base ok v xs) (ht : ∀ q, q ∈ e :: d.E → q ≠ 173) : d.R e W base (fun k => ok k ∧ k ≠ g) v xs := by
 obtain ⟨A0, c0, A1, c1, hb, hg, hr0, hr1⟩ := h
 exact Kd.R_types ho hb ht
theorem IsS173.own_ne {w0 W : World} {g : Nat} {f0 : List Int} {f1 : List Int} {f2 : Int} {f3 : Int} {f4 : Int} {α : Type} {d : Kd α} {e : Nat} {base : Nat} {ok : Nat → Prop} {v : Value} {xs : List α} (h : IsS173 w0 W g f0 f1 f2 f3 f4) (ho : d.R e W base ok v xs) (ht : e ≠ 173) : some g ≠ v.ownBlock := by
 obtain ⟨A0, c0, A1, c1, hb, hg, hr0, hr1⟩ := h
 exact Kd.R_ne ho hb ht
theorem IsS173.lt {w0 W : World} {g : Nat} {f0 : List Int} {f1 : List Int} {f2 : Int} {f3 : Int} {f4 : Int} (h : IsS173 w0 W g f0 f1 f2 f3 f4) : g < W.heap.size := by
 obtain ⟨A0, c0, A1, c1, hb, hg, hr0, hr1⟩ := h
 exact blk_lt hb
theorem IsS173.ge {w0 W : World} {g : Nat} {f0 : List Int} {f1 : List Int} {f2 : Int} {f3 : Int} {f4 : Int} (h : IsS173 w0 W g f0 f1 f2 f3 f4) : w0.heap.size ≤ g := by
 obtain ⟨A0, c0, A1, c1, hb, hg, hr0, hr1⟩ := h
 exact hg
theorem IsS173.far {w0 W : World} {g : Nat} {f0 : List Int} {f1 : List Int} {f2 : Int} {f3 : Int} {f4 : Int} {p : Addr} (h : IsS173 w0 W g f0 f1 f2 f3 f4) (hne : g ≠ p.block) (u : Value) : IsS173 w0 (W.setCell p u) g f0 f1 f2 f3 f4 := by
 obtain ⟨A0, c0, A1, c1, hb, hg, hr0, hr1⟩ := h
 exact ⟨A0, c0, A1, c1, blk_far hb hne u, hg, hr0, hr1⟩
theorem cellS173_0 {W : World} {g : Nat} {A0 : Option Addr} {c0 : Nat} {A1 : Option Addr} {c1 : Nat} {f0 : List Int} {f1 : List Int} {f2 : Int} {f3 : Int} {f4 : Int} (h : W.heap[g]? = some (.cells #[.slice A0 f0.length c0, .slice A1 f1.length c1, .int .i64 f2, .int .i64 f3, .int .i64 f4] 173 (0, 0))) : W.cell? ⟨g, 0, none⟩ = some (.slice A0 f0.length c0) := (blk_cell h 0).trans rfl
theorem cellS173_1 {W : World} {g : Nat} {A0 : Option Addr} {c0 : Nat} {A1 : Option Addr} {c1 : Nat} {f0 : List Int} {f1 : List Int} {f2 : Int} {f3 : Int} {f4 : Int} (h : W.heap[g]? = some (.cells #[.slice A0 f0.length c0, .slice A1 f1.length c1, .int .i64 f2, .int .i64 f3, .int .i64 f4] 173 (0, 0))) : W.cell? ⟨g, 1, none⟩ = some (.slice A1 f1.length c1) := (blk_cell h 1).trans rfl
theorem cellS173_2 {W : World} {g : Nat} {A0 : Option Addr} {c0 : Nat} {A1 : Option Addr} {c1 : Nat} {f0 : List Int} {f1 : List Int} {f2 : Int} {f3 : Int} {f4 : Int} (h : W.heap[g]? = some (.cells #[.slice A0 f0.length c0, .slice A1 f1.length c1, .int .i64 f2, .int .i64 f3, .int .i64 f4] 173 (0, 0))) : W.cell? ⟨g, 2, none⟩ = some (.int .i64 f2) := (blk_cell h 2).trans rfl
theorem IsS173.set_2 {w0 W : World} {g : Nat} {f0 : List Int} {f1 : List Int} {f2 : Int} {f3 : Int} {f4 : Int} (h : IsS173 w0 W g f0 f1 f2 f3 f4) (x : Int) : IsS173 w0 (W.setCell ⟨g, 2, none⟩ (.int .i64 x)) g f0 f1 x f3 f4 := by
 obtain ⟨A0, c0, A1, c1, hb, hg, hr0, hr1⟩ := h
 exact ⟨A0, c0, A1, c1, by simpa using blk_set hb 2 (.int .i64 x), hg, hr0, hr1⟩
theorem cellS173_3 {W : World} {g : Nat} {A0 : Option Addr} {c0 : Nat} {A1 : Option Addr} {c1 : Nat} {f0 : List Int} {f1 : List Int} {f2 : Int} {f3 : Int} {f4 : Int} (h : W.heap[g]? = some (.cells #[.slice A0 f0.length c0, .slice A1 f1.length c1, .int .i64 f2, .int .i64 f3, .int .i64 f4] 173 (0, 0))) : W.cell? ⟨g, 3, none⟩ = some (.int .i64 f3) := (blk_cell h 3).trans rfl
theorem IsS173.set_3 {w0 W : World} {g : Nat} {f0 : List Int} {f1 : List Int} {f2 : Int} {f3 : Int} {f4 : Int} (h : IsS173 w0 W g f0 f1 f2 f3 f4) (x : Int) : IsS173 w0 (W.setCell ⟨g, 3, none⟩ (.int .i64 x)) g f0 f1 f2 x f4 := by
 obtain ⟨A0, c0, A1, c1, hb, hg, hr0, hr1⟩ := h
 exact ⟨A0, c0, A1, c1, by simpa using blk_set hb 3 (.int .i64 x), hg, hr0, hr1⟩
theorem cellS173_4 {W : World} {g : Nat} {A0 : Option Addr} {c0 : Nat} {A1 : Option Addr} {c1 : Nat} {f0 : List Int} {f1 : List Int} {f2 : Int} {f3 : Int} {f4 : Int} (h : W.heap[g]? = some (.cells #[.slice A0 f0.length c0, .slice A1 f1.length c1, .int .i64 f2, .int .i64 f3, .int .i64 f4] 173 (0, 0))) : W.cell? ⟨g, 4, none⟩ = some (.int .i64 f4) := (blk_cell h 4).trans rfl
theorem IsS173.set_4 {w0 W : World} {g : Nat} {f0 : List Int} {f1 : List Int} {f2 : Int} {f3 : Int} {f4 : Int} (h : IsS173 w0 W g f0 f1 f2 f3 f4) (x : Int) : IsS173 w0 (W.setCell ⟨g, 4, none⟩ (.int .i64 x)) g f0 f1 f2 f3 x := by
 obtain ⟨A0, c0, A1, c1, hb, hg, hr0, hr1⟩ := h
 exact ⟨A0, c0, A1, c1, by simpa using blk_set hb 4 (.int .i64 x), hg, hr0, hr1⟩
theorem IsS173.new (w0 W : World) (A0 : Option Addr) (c0 : Nat) (A1 : Option Addr) (c1 : Nat) (f0 : List Int) (f1 : List Int) (f2 : Int) (f3 : Int) (f4 : Int) (hB : Below w0.heap.size w0 W) (hr0 : Kd.C (Kd.int .i64) w0 A0 f0.length f0) (hr1 : Kd.C (Kd.int .i64) w0 A1 f1.length f1) : IsS173 w0 (W.alloc (.cells #[.slice A0 f0.length c0, .slice A1 f1.length c1, .int .i64 f2, .int .i64 f3, .int .i64 f4] 173)) W.heap.size f0 f1 f2 f3 f4 := ⟨A0, c0, A1, c1, by simpa using heap_alloc_new W _, hB.size, hr0, hr1⟩
def chunk_sweep_together.f (s0_0 : List Int) (s0_1 : List Int) (s0_2 : Int) (s0_3 : Int) (s0_4 : Int) (a1 : Int) : Option (Bool × Int × Int × Int) := if (wrap64 (s0_2 + a1)) < (s0_0.length : Int) then (if 0 ≤ (wrap64 (s0_2 + a1)) then (if (rd s0_0 (wrap64 (s0_2 + a1))) = (wrap64 (s0_3 + a1)) then (if (wrap64 (s0_2 + a1)) < (s0_1.length : Int) then (some (((rd s0_1 (wrap64 (s0_2 + a1))) == (wrap64 (s0_4 + a1))), s0_2, s0_3, s0_4)) else (none)) else (some (false, s0_2, s0_3, s0_4))) else (none)) else (some (false, s0_2, s0_3, s0_4))
set_option maxHeartbeats 8000000 in
set_option maxRecDepth 100000 in
theorem chunk_sweep_together.calls (g : Nat) (s0_0 : List Int) (s0_1 : List Int) (s0_2 : Int) (s0_3 : Int) (s0_4 : Int) (a1 : Int) (r1 : Bool) (r2 : Int) (r3 : Int) (r4 : Int) (w0 w : World) (hI : IsS173 w0 w g s0_0 s0_1 s0_2 s0_3 s0_4) (hB : Below w0.heap.size w0 w) (h : chunk_sweep_together.f s0_0 s0_1 s0_2 s0_3 s0_4 a1 = some (r1, r2, r3, r4)) :
  Calls Try.prog 157 #[.pointer (some ⟨g, 0, none⟩), .int .i64 a1] w fun e w' => e = .returned (.bool r1) ∧ IsS173 w0 w' g s0_0 s0_1 r2 r3 r4 ∧ Below w0.heap.size w0 w' ∧ KeepBut w w' g none := by
 have HI0 := Aside0.mk hI
 have HK := Aside0.mk (KeepBut.refl w g none)
 have HL := Aside0.mk hB.size
 clear hI
 have HW0 := Aside0.mk hB.size
 have HB := Aside0.mk hB
 clear hB
 have H : (if (wrap64 (s0_2 + a1)) < (s0_0.length : Int) then (if 0 ≤ (wrap64 (s0_2 + a1)) then (if (rd s0_0 (wrap64 (s0_2 + a1))) = (wrap64 (s0_3 + a1)) then (if (wrap64 (s0_2 + a1)) < (s0_1.length : Int) then (some (((rd s0_1 (wrap64 (s0_2 + a1))) == (wrap64 (s0_4 + a1))), s0_2, s0_3, s0_4)) else (none)) else (some (false, s0_2, s0_3, s0_4))) else (none)) else (some (false, s0_2, s0_3, s0_4))) = some (r1, r2, r3, r4) := h
 clear h
 by_cases c3 : (wrap64 (s0_2 + a1)) < (s0_0.length : Int)
 ·rw [if_pos c3] at H
  have c3b0 : decide ((wrap64 (s0_2 + a1)) < (s0_0.length : Int)) = true := decide_eq_true c3
  clear c3
  obtain ⟨ji4, hji4⟩ : ∃ j_ : Int, (wrap64 (s0_2 + a1)) = j_ := ⟨_, rfl⟩
  replace H : (if 0 ≤ (ji4) then (if (rd s0_0 (ji4)) = (wrap64 (s0_3 + a1)) then (if (ji4) < (s0_1.length : Int) then (some (((rd s0_1 (ji4)) == (wrap64 (s0_4 + a1))), s0_2, s0_3, s0_4)) else (none)) else (some (false, s0_2, s0_3, s0_4))) else (none)) = some (r1, r2, r3, r4) := by first | (rw [hji4] at H; exact H) | (simp only [hji4] at H ⊢; exact H)
  (try rw [hji4] at c3b0)
  have hji4w : (IntKind.i64.wrap (s0_2 + a1)) = ji4 := (i64_w _).trans hji4
  by_cases c5 : 0 ≤ (ji4)
  ·rw [if_pos c5] at H
   have c5b0 : decide (0 ≤ (ji4)) = true := decide_eq_true c5
   clear c5
   by_cases c6 : (rd s0_0 (ji4)) = (wrap64 (s0_3 + a1))
   ·rw [if_pos c6] at H
    have c6b0 : ((rd s0_0 (ji4)) == (wrap64 (s0_3 + a1))) = true := beq_iff_eq.mpr c6
    have c6b1 : ((rd s0_0 (ji4)) != (wrap64 (s0_3 + a1))) = false := bne_eq_false_iff_eq.mpr c6
    clear c6
    by_cases c7 : (ji4) < (s0_1.length : Int)
    ·rw [if_pos c7] at H
     have c7b0 : decide ((ji4) < (s0_1.length : Int)) = true := decide_eq_true c7
     clear c7
     simp only [Option.some.injEq, Prod.mk.injEq] at H
     obtain ⟨rfl, rfl, rfl, rfl⟩ := H
     obtain ⟨ASz8_0, cSz8_0, ASz8_1, cSz8_1, HGz8, hgz8, HSz8_0, HSz8_1⟩ := HI0.out
     have hcz8_0 := cellS173_0 HGz8
     have hcz8_1 := cellS173_1 HGz8
     have hcz8_2 := cellS173_2 HGz8
     have hcz8_3 := cellS173_3 HGz8
     have hcz8_4 := cellS173_4 HGz8
     have hfz8_2 := blk_frozen HGz8 2
     have hfz8_3 := blk_frozen HGz8 3
     have hfz8_4 := blk_frozen HGz8 4
     clear HGz8 hgz8
     have p556 : 0 ≤ ((ji4) : Int) := of_decide_eq_true (by first | (with_reducible assumption) | assumption)
     have q556 : (ji4) < (s0_0.length : Int) := of_decide_eq_true (by first | (with_reducible assumption) | assumption)
     obtain ⟨ad556, e556, hx556_0⟩ := Kd.at_int HSz8_0 (ji4) p556 q556
     cases e556
     replace hx556_0 := pw_cell_below HB.out hx556_0
     replace p556 := eq_true p556
     replace q556 := eq_true q556
     have p557 : 0 ≤ ((ji4) : Int) := of_decide_eq_true (by first | (with_reducible assumption) | assumption)
     have q557 : (ji4) < (s0_1.length : Int) := of_decide_eq_true (by first | (with_reducible assumption) | assumption)
     obtain ⟨ad557, e557, hx557_0⟩ := Kd.at_int HSz8_1 (ji4) p557 q557
     cases e557
     replace hx557_0 := pw_cell_below HB.out hx557_0
     replace p557 := eq_true p557
     replace q557 := eq_true q557
     go_enter Try.func157, Try.ntmps157
     go_wp2
     repeat (go_quiet (fail); try go_wp2)
     go_ret
     exact ⟨by first | rfl | (simp [errW_none, errW_some] <;> rfl) | (simp only [← hji4]; first | rfl | (simp [errW_none, errW_some] <;> rfl)) | (simp [*, errW_none, errW_some] <;> rfl), by repeat (first | (with_reducible first | exact HI0.out | apply IsS173.alloc | apply IsS173.drewN | apply IsS173.drew | apply IsS173.set_2 | apply IsS173.set_3 | apply IsS173.set_4) | exact HI0.out), by repeat (first | (with_reducible first | exact HB.out | apply below_alloc | apply pw_below_drewN | apply below_drew1 | refine below_set ?_ (IsS173.ge HI0.out)) | exact HB.out), by repeat (first | (with_reducible first | exact HK.out | apply KeepBut.set_ | apply keep_drewN | apply keep_drew | apply keep_alloc) | exact HK.out)⟩
    ·rw [if_neg c7] at H
     exact absurd H (by simp)
   ·rw [if_neg c6] at H
    have c6b0 : ((rd s0_0 (ji4)) == (wrap64 (s0_3 + a1))) = false := beq_eq_false_iff_ne.mpr c6
    have c6b1 : ((rd s0_0 (ji4)) != (wrap64 (s0_3 + a1))) = true := bne_iff_ne.mpr c6
    simp only [Option.some.injEq, Prod.mk.injEq] at H
    obtain ⟨rfl, rfl, rfl, rfl⟩ := H
    obtain ⟨ASz9_0, cSz9_0, ASz9_1, cSz9_1, HGz9, hgz9, HSz9_0, HSz9_1⟩ := HI0.out
    have hcz9_0 := cellS173_0 HGz9
    have hcz9_1 := cellS173_1 HGz9
    have hcz9_2 := cellS173_2 HGz9
    have hcz9_3 := cellS173_3 HGz9
    have hcz9_4 := cellS173_4 HGz9
    have hfz9_2 := blk_frozen HGz9 2
    have hfz9_3 := blk_frozen HGz9 3
    have hfz9_4 := blk_frozen HGz9 4
    clear HGz9 hgz9
    have p556 : 0 ≤ ((ji4) : Int) := of_decide_eq_true (by first | (with_reducible assumption) | assumption)
    have q556 : (ji4) < (s0_0.length : Int) := of_decide_eq_true (by first | (with_reducible assumption) | assumption)
    obtain ⟨ad556, e556, hx556_0⟩ := Kd.at_int HSz9_0 (ji4) p556 q556
    cases e556
    replace hx556_0 := pw_cell_below HB.out hx556_0
    replace p556 := eq_true p556
    replace q556 := eq_true q556
    go_enter Try.func157, Try.ntmps157
    go_wp2
    repeat (go_quiet (fail); try go_wp2)
    go_ret
    exact ⟨by first | rfl | (simp [errW_none, errW_some] <;> rfl) | (simp only [← hji4]; first | rfl | (simp [errW_none, errW_some] <;> rfl)) | (simp [*, errW_none, errW_some] <;> rfl), by repeat (first | (with_reducible first | exact HI0.out | apply IsS173.alloc | apply IsS173.drewN | apply IsS173.drew | apply IsS173.set_2 | apply IsS173.set_3 | apply IsS173.set_4) | exact HI0.out), by repeat (first | (with_reducible first | exact HB.out | apply below_alloc | apply pw_below_drewN | apply below_drew1 | refine below_set ?_ (IsS173.ge HI0.out)) | exact HB.out), by repeat (first | (with_reducible first | exact HK.out | apply KeepBut.set_ | apply keep_drewN | apply keep_drew | apply keep_alloc) | exact HK.out)⟩
  ·rw [if_neg c5] at H
   exact absurd H (by simp)
 ·rw [if_neg c3] at H
  have c3b0 : decide ((wrap64 (s0_2 + a1)) < (s0_0.length : Int)) = false := decide_eq_false c3
  clear c3
  simp only [Option.some.injEq, Prod.mk.injEq] at H
  obtain ⟨rfl, rfl, rfl, rfl⟩ := H
  obtain ⟨ASz10_0, cSz10_0, ASz10_1, cSz10_1, HGz10, hgz10, HSz10_0, HSz10_1⟩ := HI0.out
  have hcz10_0 := cellS173_0 HGz10
  have hcz10_1 := cellS173_1 HGz10
  have hcz10_2 := cellS173_2 HGz10
  have hcz10_3 := cellS173_3 HGz10
  have hcz10_4 := cellS173_4 HGz10
  have hfz10_2 := blk_frozen HGz10 2
  have hfz10_3 := blk_frozen HGz10 3
  have hfz10_4 := blk_frozen HGz10 4
  clear HGz10 hgz10
  go_enter Try.func157, Try.ntmps157
  go_wp2
  repeat (go_quiet (fail); try go_wp2)
  go_ret
  exact ⟨by first | rfl | (simp [errW_none, errW_some] <;> rfl) | (simp [*, errW_none, errW_some] <;> rfl), by repeat (first | (with_reducible first | exact HI0.out | apply IsS173.alloc | apply IsS173.drewN | apply IsS173.drew | apply IsS173.set_2 | apply IsS173.set_3 | apply IsS173.set_4) | exact HI0.out), by repeat (first | (with_reducible first | exact HB.out | apply below_alloc | apply pw_below_drewN | apply below_drew1 | refine below_set ?_ (IsS173.ge HI0.out)) | exact HB.out), by repeat (first | (with_reducible first | exact HK.out | apply KeepBut.set_ | apply keep_drewN | apply keep_drew | apply keep_alloc) | exact HK.out)⟩
end Go.Proofs.Ytfiamddinkokbaa.F
end

section
set_option linter.unusedVariables false
set_option linter.unusedSimpArgs false
namespace Go.Proofs.Ytfiamddinkokbaa.F
open Go.RowKit Go.Proofs.YtfiamddinkokbaaW.PrintWords Go.Proofs.YtfiamddinkokbaaW.PrintLast Go.Proofs.YtfiamddinkokbaaW.PrintMore
attribute [local go_sem] max2_int min2_int max_two min_two max_three min_three max_four min_four
set_option linter.unusedVariables false
set_option linter.unusedSimpArgs false
def chunk_sweep_stable.l0 : Nat → Int → List Int → List Int → Int → Int → Int → Option (Int × Int × Int × Int)
 | 0, _, _, _, _, _, _ => none
 | k + 1, x3, x1000, x1001, x1002, x1003, x1004 => (chunk_sweep_together.f x1000 x1001 x1002 x1003 x1004 x3).bind fun bt558 => (if bt558.1 = true then (chunk_sweep_stable.l0 k (wrap64 (x3 + 1)) x1000 x1001 bt558.2.1 bt558.2.2.1 bt558.2.2.2) else (some (x3, bt558.2.1, bt558.2.2.1, bt558.2.2.2)))
def chunk_sweep_stable.f (k : Nat) (s0_0 : List Int) (s0_1 : List Int) (s0_2 : Int) (s0_3 : Int) (s0_4 : Int) : Option (Int × Int × Int × Int) := chunk_sweep_stable.l0 k 0 s0_0 s0_1 s0_2 s0_3 s0_4
theorem chunk_sweep_stable.mono_l : ∀ k, (∀ y0 y1 y2 y3 y4 y5, LeO (chunk_sweep_stable.l0 k y0 y1 y2 y3 y4 y5) (chunk_sweep_stable.l0 (k + 1) y0 y1 y2 y3 y4 y5))
 | 0 => fun _ _ _ _ _ _ r h => by simp [chunk_sweep_stable.l0] at h
 | k + 1 => by
  have ih0 := chunk_sweep_stable.mono_l k
  ·intro y0 y1 y2 y3 y4 y5
   unfold chunk_sweep_stable.l0
   repeat' first
   | (with_reducible exact ih0 _ _ _ _ _ _)
   | (with_reducible exact LeO.refl _)
   | (with_reducible exact LeO.none _)
   | (with_reducible refine LeO.ite ?_ ?_)
   | (with_reducible refine LeO.bind ?_ (fun _ => ?_))
   | exact ih0 _ _ _ _ _ _
   | exact LeO.none _
   | refine LeO.ite ?_ ?_
   | refine LeO.bind ?_ (fun _ => ?_)
theorem chunk_sweep_stable.mono : ∀ a0 a1 a2 a3 a4 k, LeO (chunk_sweep_stable.f k a0 a1 a2 a3 a4) (chunk_sweep_stable.f (k + 1) a0 a1 a2 a3 a4) := by
 intro a0 a1 a2 a3 a4 k
 have ih0 := chunk_sweep_stable.mono_l k
 unfold chunk_sweep_stable.f
 repeat' first
   | (with_reducible exact ih0 _ _ _ _ _ _)
   | (with_reducible exact LeO.refl _)
   | (with_reducible exact LeO.none _)
   | (with_reducible refine LeO.ite ?_ ?_)
   | (with_reducible refine LeO.bind ?_ (fun _ => ?_))
   | exact ih0 _ _ _ _ _ _
   | exact LeO.none _
   | refine LeO.ite ?_ ?_
   | refine LeO.bind ?_ (fun _ => ?_)
set_option maxHeartbeats 8000000 in
set_option maxRecDepth 100000 in
theorem chunk_sweep_stable.calls (k : Nat) (g : Nat) (s0_0 : List Int) (s0_1 : List Int) (s0_2 : Int) (s0_3 : Int) (s0_4 : Int) (r1 : Int) (r2 : Int) (r3 : Int) (r4 : Int) (w0 w : World) (hI : IsS173 w0 w g s0_0 s0_1 s0_2 s0_3 s0_4) (hB : Below w0.heap.size w0 w) (h : chunk_sweep_stable.f k s0_0 s0_1 s0_2 s0_3 s0_4 = some (r1, r2, r3, r4)) :
  Calls Try.prog 134 #[.pointer (some ⟨g, 0, none⟩)] w fun e w' => e = .returned (.int .i64 r1) ∧ IsS173 w0 w' g s0_0 s0_1 r2 r3 r4 ∧ Below w0.heap.size w0 w' ∧ KeepBut w w' g none := by
 have HI0 := Aside0.mk hI
 have HK := Aside0.mk (KeepBut.refl w g none)
 have HL := Aside0.mk hB.size
 clear hI
 have HW0 := Aside0.mk hB.size
 have HB := Aside0.mk hB
 clear hB
 have H : (chunk_sweep_stable.l0 k 0 s0_0 s0_1 s0_2 s0_3 s0_4) = some (r1, r2, r3, r4) := h
 clear h
 have H' := Aside0.mk H
 clear H
 go_enter Try.func134, Try.ntmps134
 go_wp2
 go_loopg [3] k (fun kq v3 w' => ∃ (x3_1 : Int) (x1002_1 : Int) (x1003_1 : Int) (x1004_1 : Int), v3 = .int .i64 x3_1 ∧ Aside0 (chunk_sweep_stable.l0 kq x3_1 s0_0 s0_1 x1002_1 x1003_1 x1004_1 = some (r1, r2, r3, r4)) ∧ Aside0 (kq ≤ k) ∧ Aside0 (IsS173 w0 w' g s0_0 s0_1 x1002_1 x1003_1 x1004_1) ∧ Aside0 (KeepBut w w' g none) ∧ Aside0 (Below w0.heap.size w0 w'))
 case atStart => exact ⟨(0), (s0_2), (s0_3), (s0_4), (by first | rfl | (simp; done) | (simp [*]; done)), H', ⟨Nat.le_refl _⟩, ⟨by repeat (first | (with_reducible first | exact HI0.out | apply IsS173.alloc | apply IsS173.drewN | apply IsS173.drew | apply IsS173.set_2 | apply IsS173.set_3 | apply IsS173.set_4) | exact HI0.out)⟩, ⟨by repeat (first | (with_reducible first | exact HK.out | apply KeepBut.set_ | apply keep_drewN | apply keep_drew | apply keep_alloc) | exact HK.out)⟩, ⟨by repeat (first | (with_reducible first | exact HB.out | apply below_alloc | apply pw_below_drewN | apply below_drew1 | refine below_set ?_ (IsS173.ge HI0.out)) | exact HB.out)⟩⟩
 case round =>
  clear H'
  try clear c1
  obtain ⟨x3_1, x1002_1, x1003_1, x1004_1, rfl, HA, HK1, HI0, HK, HB⟩ := hrel
  cases gk with
  | zero => exact absurd HA.out (by simp [chunk_sweep_stable.l0])
  | succ k1 =>
   have H := HA.out
   clear HA
   simp only [chunk_sweep_stable.l0] at H
   replace H := Option.bind_eq_some_iff.mp H
   obtain ⟨⟨t558, t559, t560, t561⟩, A20, H⟩ := H
   replace H : (if t558 = true then (chunk_sweep_stable.l0 k1 (wrap64 (x3_1 + 1)) s0_0 s0_1 t559 t560 t561) else (some (x3_1, t559, t560, t561))) = some (r1, r2, r3, r4) := H
   have A2 := Aside0.mk A20
   clear A20
   by_cases c3 : t558 = true
   ·subst c3
    have H1 : (chunk_sweep_stable.l0 k1 (wrap64 (x3_1 + 1)) s0_0 s0_1 t559 t560 t561) = some (r1, r2, r3, r4) := by rw [if_pos rfl] at H; exact H
    clear H
    have H := H1
    clear H1
    have H' := Aside0.mk H
    clear H
    go_wp2_with (first | ((with_reducible refine gate_callee (f := 157) rfl ?_); refine goesL_ (some 6) rfl rfl Try.func157 (by kernel_rfl) rfl #[.pointer (some ⟨g, 0, none⟩), .int .i64 x3_1] rfl (by (try simp only [List.map_toArray, List.map_cons, List.map_nil]); first | done | rfl | (simp only [List.length_drop, List.length_take]; rfl)) ?_; (with_reducible refine (chunk_sweep_together.calls g s0_0 s0_1 x1002_1 x1003_1 x1004_1 x3_1 true t559 t560 t561 w0 _ ?side1 ?side2 A2.out).mono ?_); (case side1 => repeat (first | (with_reducible first | exact HI0.out | apply IsS173.alloc | apply IsS173.drewN | apply IsS173.drew | apply IsS173.set_2 | apply IsS173.set_3 | apply IsS173.set_4) | exact HI0.out)); (case side2 => repeat (first | (with_reducible first | exact HB.out | apply below_alloc | apply pw_below_drewN | apply below_drew1 | refine below_set ?_ (IsS173.ge HI0.out)) | exact HB.out)); rintro e w4 ⟨rfl, hi, hb, hk⟩; refine ⟨_, rfl, ?_⟩; have n0_ := Aside0.mk (KeepBut.trans (by repeat (first | (with_reducible first | exact HK.out | apply KeepBut.set_ | apply keep_drewN | apply keep_drew | apply keep_alloc) | exact HK.out)) hk (.inl rfl)); have n1_ := Aside0.mk (hb); have n2_ := Aside0.mk (hi); clear HK; clear HB; clear HI0; have HK := n0_; have HB := n1_; have HI0 := n2_; clear n0_ n1_ n2_; (try clear hb); (try clear hb2); (try clear hk); (try clear hi)))
    go_roundg k1
    case measure => have := HK1.out; omega
    case rel => exact ⟨(wrap64 (x3_1 + 1)), (t559), (t560), (t561), (by first | rfl | (simp; done) | (simp [*]; done)), H', ⟨by have := HK1.out; omega⟩, ⟨by repeat (first | (with_reducible first | exact HI0.out | apply IsS173.alloc | apply IsS173.drewN | apply IsS173.drew | apply IsS173.set_2 | apply IsS173.set_3 | apply IsS173.set_4) | exact HI0.out)⟩, ⟨by repeat (first | (with_reducible first | exact HK.out | apply KeepBut.set_ | apply keep_drewN | apply keep_drew | apply keep_alloc) | exact HK.out)⟩, ⟨by repeat (first | (with_reducible first | exact HB.out | apply below_alloc | apply pw_below_drewN | apply below_drew1 | refine below_set ?_ (IsS173.ge HI0.out)) | exact HB.out)⟩⟩
   ·replace c3 := Bool.eq_false_iff.mpr c3
    subst c3
    have H1 : (some (x3_1, t559, t560, t561)) = some (r1, r2, r3, r4) := by rw [if_neg (show ¬ (false = true) by decide)] at H; exact H
    clear H
    have H := H1
    clear H1
    simp only [Option.some.injEq, Prod.mk.injEq] at H
    obtain ⟨rfl, rfl, rfl, rfl⟩ := H
    go_wp2_with (first | ((with_reducible refine gate_callee (f := 157) rfl ?_); refine goesL_ (some 6) rfl rfl Try.func157 (by kernel_rfl) rfl #[.pointer (some ⟨g, 0, none⟩), .int .i64 x3_1] rfl (by (try simp only [List.map_toArray, List.map_cons, List.map_nil]); first | done | rfl | (simp only [List.length_drop, List.length_take]; rfl)) ?_; (with_reducible refine (chunk_sweep_together.calls g s0_0 s0_1 x1002_1 x1003_1 x1004_1 x3_1 false t559 t560 t561 w0 _ ?side1 ?side2 A2.out).mono ?_); (case side1 => repeat (first | (with_reducible first | exact HI0.out | apply IsS173.alloc | apply IsS173.drewN | apply IsS173.drew | apply IsS173.set_2 | apply IsS173.set_3 | apply IsS173.set_4) | exact HI0.out)); (case side2 => repeat (first | (with_reducible first | exact HB.out | apply below_alloc | apply pw_below_drewN | apply below_drew1 | refine below_set ?_ (IsS173.ge HI0.out)) | exact HB.out)); rintro e w5 ⟨rfl, hi, hb, hk⟩; refine ⟨_, rfl, ?_⟩; have n0_ := Aside0.mk (KeepBut.trans (by repeat (first | (with_reducible first | exact HK.out | apply KeepBut.set_ | apply keep_drewN | apply keep_drew | apply keep_alloc) | exact HK.out)) hk (.inl rfl)); have n1_ := Aside0.mk (hb); have n2_ := Aside0.mk (hi); clear HK; clear HB; clear HI0; have HK := n0_; have HB := n1_; have HI0 := n2_; clear n0_ n1_ n2_; (try clear hb); (try clear hb2); (try clear hk); (try clear hi)))
    go_ret
    exact ⟨by first | rfl | (simp [errW_none, errW_some] <;> rfl) | (simp [*, errW_none, errW_some] <;> rfl), by repeat (first | (with_reducible first | exact HI0.out | apply IsS173.alloc | apply IsS173.drewN | apply IsS173.drew | apply IsS173.set_2 | apply IsS173.set_3 | apply IsS173.set_4) | exact HI0.out), by repeat (first | (with_reducible first | exact HB.out | apply below_alloc | apply pw_below_drewN | apply below_drew1 | refine below_set ?_ (IsS173.ge HI0.out)) | exact HB.out), by repeat (first | (with_reducible first | exact HK.out | apply KeepBut.set_ | apply keep_drewN | apply keep_drew | apply keep_alloc) | exact HK.out)⟩
end Go.Proofs.Ytfiamddinkokbaa.F
end
