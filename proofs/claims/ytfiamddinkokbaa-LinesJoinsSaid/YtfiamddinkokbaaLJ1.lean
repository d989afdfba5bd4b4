/- Texts joined into one file (wip/tools/pack.py): Range, Lines, Shelf, Split, Run, Ext, Number, F0, Fn29, Fn81, Fn33, Fn43, Fn38, Fn82, Fn34, Fn40, Told01, Fn30, Fn31, Fn35, Fn36, Fn32, Fn83, Fn37, Fn6, Fn44, Fn41 -/
import Derived.RangeFuncBox
import Derived.RangeFuncLeaves
import Derived.Shelf.Abstract
import Derived.WalkKit
import Derived.OwnWalkIn
import Derived.Lib.IndexLaws
import Derived.Shelf.Strings.Builder1
import Derived.Shelf.Strings.Builder2
import Derived.Shelf.Strings.OnBuilder
import Derived.Shelf.Small.Strs
import Derived.Shelf.Small.Wraps
import Derived.Shelf.Strings.BuilderF
import Derived.Shelf.Strings.BuilderK
import Derived.Shelf.Strings.Builder2Cap
import Derived.Shelf.Strings.Search1
import Derived.Shelf.Strings.Search2
import Derived.Shelf.Strings.Search3
import Derived.Shelf.LaysM
import Derived.Shelf.Strings.Shaped
import Derived.Shelf.Strings.Prefix
import Derived.Shelf.Bits.Mul64
import Derived.Shelf.Strings.Repeat
import Derived.Shelf.Strings.BuilderCap
import Derived.Shelf.Slices.Equal
import Derived.Ground.Names2Prog
import Derived.Shelf.Slices.Clone
import Derived.Shelf.Slices.Empties2
import Derived.Test.YtfiamddinkokbaaProg
import Derived.Test.YtfiamddinkokbaaWords1
import Derived.TacticsInMore
import Derived.LoopNIn
import Derived.LoopIn
import Derived.Maps.AppendAt
import Derived.StillTailTactics
import Derived.Lib.Hide
import Derived.Outline
import Derived.Lib.OthersKept
import Derived.Maps.Own
import Derived.Maps.OwnOps
import Derived.Maps.OwnSet
import Derived.Below
import Derived.Deep.Draws
import Derived.Deep.AppendLies
import Derived.OwnWalk
import Derived.Laws.BytesArg
import Derived.Laws.MakeOwn
import Derived.Laws.OwnMore
import Derived.Deep.OwnRows
import Derived.Tactics
import Derived.Lib.ConvBytes
import Derived.Laws.Slices
import Derived.KernelRfl
import Derived.RowKit3
import Derived.Deep.LoopGhost
import Derived.Deep.QuietTactic
import Derived.BigQuiet
import Derived.WideLaws
import Derived.Deep.DeepCutAuto
import Derived.Deep.CutBlock
import Derived.Deep.RegionHeld3
import Derived.Laws.Rows
import Derived.Lib.AppendStr
import Derived.ArgAppend
import Derived.Laws.IdiomCopy
import Derived.OrdersHeld
import Derived.Laws.BitsLemmas
import Derived.RowKit
section
set_option linter.unusedVariables false
set_option linter.unusedSimpArgs false
namespace Go.Proofs.Ytfiamddinkokbaa
open Go.RowKit
def SeqCell {α : Type} (F : Fence) (n : Nat) (P : Program) (g : Nat) (lb : Array Value) (encs : α → Array Value) (B : Nat) (o : Obj) (S : List α → Prop) (N : Nat) : Prop :=
  ∀ (l : Nat) (J : List α → World → Prop) (W : World), W.heap[B]? = some o →
    (∀ s W v, J s W → J s (W.setCell ⟨B, 0, none⟩ v)) → (∀ s W, J s W → J s W.drew) →
    (∀ pre x W1, J pre W1 → pre.length < N → YieldAt F (n - 1) P l (encs x) W1 fun e W' => e = .returned (.bool true) ∧ J (pre ++ [x]) W' ∧ W'.heap[B]? = W1.heap[B]?) →
    J [] W →
    CallsIn F n P g (#[.func (.yield l) #[] #[]] ++ lb) W fun e W' => (∃ v, e = .returned v) ∧ ∃ xs, S xs ∧ J xs W'
variable {F : Fence} {n : Nat} {P : Program}
theorem wpIn_rangeFunc_cell {α : Type} {g : Operand} {ps : Array Tmp} {assign body : Code} {Q : Exit → Act → World → Prop} {a : Act} {w : World}
    (hro : F.round = none) (h1 : 1 ≤ n) {gf : Nat} {lb : Array Value} (hg : a.eval g = .func (.func gf) #[] lb) (hFg : F.fn gf) (eg : ∀ args w, (callFunc gf args).run P w = .ok (.enter gf args) w)
    {encs : α → Array Value} {B : Nat} {o : Obj} {S : List α → Prop} {N : Nat} (hseq : SeqCell F (n - 1) P gf lb encs B o S N)
    (hBo : w.heap[B]? = some o) (hps : ∀ x, (encs x).size = ps.size)
    (I : List α → World → Prop) (hI : OwnFrom w.heap.size I) (hIB : ∀ s W v, I s W → I s (W.setCell ⟨B, 0, none⟩ v)) (hId : ∀ s W, I s W → I s W.drew) (h0 : I [] w) (a₁ : α → Act)
    (hassign : ∀ (l : Nat) (x : α) (W : World) (K : Act → World → Prop), K (a₁ x) W →
      assign.wpIn (F.inRound l) (n - 1 - 1) P (Exit.then K (fun _ _ _ => False)) { tmps := (ps.zip (encs x)).foldl (fun t (p, v) => t.setIfInBounds p v) a.tmps, defers := [] } W)
    (hbody : ∀ (l : Nat) (pre : List α) (x : α) (W : World), I pre W → pre.length < N → body.wpIn (F.inRound l) (n - 1 - 1) P
      (fun e _ W' => e = .normal ∧ KeepsFrom w.heap.size W W' ∧ W'.heap[B]? = W.heap[B]? ∧ I (pre ++ [x]) W') (a₁ x) W)
    (hdone : ∀ (D : Nat) (xs : List α) (W : World), w.heap.size ≤ D → S xs → I xs W → W.heap[D]? = some (.deferred (some [])) → Q .normal { a with defers := { target := .collected D, args := #[] } :: a.defers } W) :
    (Code.rangeFunc g ps assign body).wpIn F n P Q a w := by
  have hBlt : B < w.heap.size := (Array.getElem?_eq_some_iff.1 hBo).1
  refine wpIn_rangeFunc ?_
  intro fn hfn
  rw [hro]
  obtain ⟨rec, hrec⟩ : ∃ rec : LoopState → Option Code → Loop, rec = fun st pe => { state := st, pending := pe, fn, tmps := a.tmps, params := ps, assign, body, defers := w.heap.size } := ⟨_, rfl⟩
  obtain ⟨W1, hW1⟩ : ∃ W1, (w.alloc (.deferred (some []))).alloc (.loop (rec .ready none)) = W1 := ⟨_, rfl⟩
  have hL1 : W1.heap[w.heap.size + 1]? = some (.loop (rec .ready none)) := by
    rw [← hW1]; have := World.alloc_heap_new (w.alloc (.deferred (some []))) (.loop (rec .ready none)); rwa [World.size_alloc] at this
  have hK1 : W1.heap[w.heap.size]? = some (.deferred (some [])) := by
    rw [← hW1]; exact (Below.heap_alloc _ _ _ (by simp)).trans (World.alloc_heap_new w _)
  have hB1 : W1.heap[B]? = some o := by
    rw [← hW1, Below.heap_alloc _ _ _ (by simp; omega), Below.heap_alloc _ _ _ (by omega)]; exact hBo
  have hI1 : I [] W1 := by rw [← hW1]; exact hI.alloc _ (hI.alloc _ h0)
  refine ⟨w.heap.size + 1, [{ target := .collected w.heap.size, args := #[] }], W1, { target := .fn (.func gf) lb, args := #[.func (.yield (w.heap.size + 1)) #[] #[]] }, W1, gf,
    #[.func (.yield (w.heap.size + 1)) #[] #[]] ++ lb, W1, ?_, ?_, ?_, ?_, fun _ => h1, ?_⟩
  · rw [← hW1, hrec]; exact run_enterLoop_outer _ _ _ _ _
  · simp only [resolve, hg]
    simp [go_sem]
  · intro f' hf'; simp [Target.leads] at hf'; subst hf'; exact hFg
  · simp [invoke, go_sem, eg]
  · refine (hseq (w.heap.size + 1)
      (fun pre W => I pre W ∧ W.heap[w.heap.size + 1]? = some (.loop (rec .ready none)) ∧ W.heap[w.heap.size]? = some (.deferred (some [])))
      W1 hB1
      (fun s A v hs => ⟨hIB s A v hs.1, (Below.heap_setCell _ _ _ _ (by simp; omega)).trans hs.2.1, (Below.heap_setCell _ _ _ _ (by simp; omega)).trans hs.2.2⟩)
      (fun s A hs => ⟨hId s A hs.1, hs.2.1, hs.2.2⟩)
      ?_ ⟨hI1, hL1, hK1⟩).mono ?_
    · rintro pre x W ⟨hi, hl, hk⟩ hlen
      have hlt : w.heap.size + 1 < W.heap.size := (Array.getElem?_eq_some_iff.1 hl).1
      have hy := run_yield (P := P) (args := encs x) hl (by rw [hrec]; exact hps x)
      rw [hrec] at hy
      refine ⟨fn, _, assign, body, hy, roundIn_of_wpIn hfn (hassign _ x W _ ⟨_, run_beginRound hl (by rw [hrec]), ?_⟩)⟩
      have hl2 : (W.putObj (w.heap.size + 1) (.loop { rec .ready none with state := .busy })).heap[w.heap.size + 1]? = some (.loop { rec .ready none with state := .busy }) := World.putObj_heap_same hlt
      have hk2 : (W.putObj (w.heap.size + 1) (.loop { rec .ready none with state := .busy })).heap[w.heap.size]? = some (.deferred (some [])) := (World.putObj_heap_other (by omega)).trans hk
      have hb2 : (W.putObj (w.heap.size + 1) (.loop { rec .ready none with state := .busy })).heap[B]? = W.heap[B]? := World.putObj_heap_other (by omega)
      refine wpIn_mono (hbody _ pre x _ (hI.putObj _ hi (by omega) hl rfl) hlen) ?_
      rintro e a3 W3 ⟨rfl, hk3, hb3, hi3⟩
      have hl3 := hk3.same _ _ (by omega) hl2 rfl
      have hre := run_endRound (P := P) none hl3
      rw [hrec] at hre ⊢
      rw [hrec] at hl3 hl2 hk2 hk3
      refine ⟨_, _, hre, rfl, ⟨hI.putObj _ hi3 (by omega) hl3 rfl, World.putObj_heap_same (Array.getElem?_eq_some_iff.1 hl3).1, (World.putObj_heap_other (by omega)).trans (hk3.same _ _ (Nat.le_refl _) hk2 rfl)⟩, ?_⟩
      exact (World.putObj_heap_other (by omega)).trans (hb3.trans hb2)
    · rintro e W2 ⟨⟨v, rfl⟩, xs, hS, hi, hl, hk⟩
      exact ⟨none, _, by have := run_endLoop (P := P) hl (by rw [hrec]; simp); rw [hrec] at this; exact this, hdone _ xs _ (Nat.le_refl _) hS (hI.putObj _ hi (by omega) hl rfl) ((World.putObj_heap_other (by omega)).trans hk)⟩
end Go.Proofs.Ytfiamddinkokbaa
end

section
set_option linter.unusedVariables false
set_option linter.unusedSimpArgs false
namespace Go.Proofs.Ytfiamddinkokbaa
open Go
def splitL : List UInt8 → List (List UInt8)
  | [] => []
  | c :: t => if c = 10 then [10] :: splitL t else match splitL t with
    | [] => [[c]]
    | l :: r => (c :: l) :: r
def takeLine : List UInt8 → List UInt8
  | [] => []
  | c :: t => if c = 10 then [10] else c :: takeLine t
def dropLine : List UInt8 → List UInt8
  | [] => []
  | c :: t => if c = 10 then t else dropLine t
theorem splitL_nil_iff : ∀ l : List UInt8, splitL l = [] ↔ l = []
  | [] => by simp [splitL]
  | c :: t => by
    simp only [splitL]
    split
    · simp
    · split <;> simp
theorem splitL_next : ∀ l : List UInt8, l ≠ [] → splitL l = takeLine l :: splitL (dropLine l)
  | [], h => absurd rfl h
  | c :: t, _ => by
    by_cases hc : c = 10
    · simp [splitL, takeLine, dropLine, hc]
    · simp only [splitL, takeLine, dropLine, hc, if_false]
      by_cases ht : t = []
      · subst ht; simp [splitL, takeLine, dropLine]
      · rw [splitL_next t ht]
theorem line_of_some : ∀ (l : List UInt8) (o : Nat), Lib.indexByte l 10 = o → takeLine l = l.take (o + 1) ∧ dropLine l = l.drop (o + 1)
  | [], o, h => by
    have := (Lib.indexByte_some h).1
    simp at this
  | c :: t, o, h => by
    obtain ⟨h1, h2⟩ := Lib.indexByte_some h
    by_cases hc : c = 10
    · have : o = 0 := by
        rcases Nat.eq_zero_or_pos o with h0 | h0
        · exact h0
        · exact absurd (by simp [hc]) (h2 0 h0)
      subst this
      simp [takeLine, dropLine, hc]
    · cases o with
      | zero => simp at h1; exact absurd h1 hc
      | succ o =>
        have ih := line_of_some t o (by
          simp only [Lib.indexByte, beq_iff_eq, if_neg hc] at h
          split at h <;> omega)
        simp [takeLine, dropLine, hc, ih.1, ih.2]
theorem line_of_none : ∀ (l : List UInt8), Lib.indexByte l 10 = -1 → takeLine l = l ∧ dropLine l = []
  | [], _ => ⟨rfl, rfl⟩
  | c :: t, h => by
    have hn := Lib.indexByte_none h
    have hc : c ≠ 10 := fun e => hn 0 (by simp [e])
    have ih := line_of_none t (by
      have hg := Lib.indexByte_ge t 10
      rcases Int.lt_or_le (Lib.indexByte t 10) 0 with h0 | h0
      · omega
      · obtain ⟨o, ho⟩ := Int.eq_ofNat_of_zero_le h0
        exact absurd (Lib.indexByte_some ho).1 (by have := hn (o + 1); simpa using this))
    simp [takeLine, dropLine, hc, ih.1, ih.2]
def toB (l : List UInt8) : ByteArray := ⟨l.toArray⟩
def splitB (s : ByteArray) : List ByteArray := (splitL s.data.toList).map toB
theorem toB_data (s : ByteArray) : toB s.data.toList = s := by cases s; simp [toB]
@[simp] theorem toB_size (l : List UInt8) : (toB l).size = l.length := by simp [toB, ByteArray.size]
@[simp] theorem data_toB (l : List UInt8) : (toB l).data.toList = l := by simp [toB]
theorem splitL_length_le : ∀ l : List UInt8, (splitL l).length ≤ l.length
  | [] => by simp [splitL]
  | c :: t => by
    have ih := splitL_length_le t
    simp only [splitL]
    split
    · simpa using ih
    · split
      · simp
      · rename_i h; rw [h] at ih; simp at ih ⊢; omega
end Go.Proofs.Ytfiamddinkokbaa
end

section
set_option linter.unusedVariables false
set_option linter.unusedSimpArgs false
namespace Go.Proofs
open Go.Shelf
def Try.lays156_ren : Go.Shelf.Ren := ⟨fun | 156 => 81 | 165 => 121 | 166 => 87 | 169 => 89 | 240 => 123 | 241 => 145 | 276 => 149 | 277 => 161 | n => n, fun | 31 => 36 | 9 => 9 | 3 => 3 | 4 => 4 | 0 => 0 | 20 => 20 | 72 => 127 | 76 => 132 | 70 => 124 | 37 => 125 | 75 => 131 | 127 => 165 | 164 => 184 | 5 => 5 | 80 => 135 | n => n, fun | n => n⟩
theorem Try.lays156 : Go.Proofs.Lays.n156 Try.prog Try.lays156_ren := {
  mixed := by kernel_rfl
  f156 := Try.func81.trans (congrArg some (by kernel_rfl))
  f165 := Try.func121.trans (congrArg some (by kernel_rfl))
  f166 := Try.func87.trans (congrArg some (by kernel_rfl))
  f169 := Try.func89.trans (congrArg some (by kernel_rfl))
  f240 := Try.func123.trans (congrArg some (by kernel_rfl))
  f241 := Try.func145.trans (congrArg some (by kernel_rfl))
  f276 := Try.func149.trans (congrArg some (by kernel_rfl))
  f277 := Try.func161.trans (congrArg some (by kernel_rfl))
  t0 := Try.underlying0
  a0 := Try.isAgg0
  z0 := Try.sizeOf0
  v0 := Try.zeroValue0
  t3 := Try.underlying3
  a3 := Try.isAgg3
  z3 := Try.sizeOf3
  v3 := Try.zeroValue3
  t4 := Try.underlying4
  a4 := Try.isAgg4
  z4 := Try.sizeOf4
  v4 := Try.zeroValue4
  t9 := Try.underlying9
  a9 := Try.isAgg9
  z9 := Try.sizeOf9
  v9 := Try.zeroValue9
  t20 := Try.underlying20
  a20 := Try.isAgg20
  z20 := Try.sizeOf20
  v20 := Try.zeroValue20
  t31 := Try.underlying36
  a31 := Try.isAgg36
  z31 := Try.sizeOf36
  v31 := Try.zeroValue36
  t37 := Try.underlying125
  a37 := Try.isAgg125
  z37 := Try.sizeOf125
  v37 := Try.zeroValue125
  t70 := Try.underlying124
  a70 := Try.isAgg124
  z70 := Try.sizeOf124
  v70 := Try.zeroValue124
  t72 := Try.underlying127
  a72 := Try.isAgg127
  z72 := Try.sizeOf127
  v72 := Try.zeroValue127
  t75 := Try.underlying131
  a75 := Try.isAgg131
  z75 := Try.sizeOf131
  v75 := Try.zeroValue131
  t76 := Try.underlying132
  a76 := Try.isAgg132
  z76 := Try.sizeOf132
  v76 := Try.zeroValue132
  t127 := Try.underlying165
  a127 := Try.isAgg165
  z127 := Try.sizeOf165
  v127 := Try.zeroValue165
  t164 := Try.underlying184
  a164 := Try.isAgg184
  z164 := Try.sizeOf184
  v164 := Try.zeroValue184 }
theorem Try.Builder_Extra_156 : Builder.Extra Try.prog Try.lays156_ren := {
  sizeBuilder := by kernel_rfl
  liesBuilder := by kernel_rfl
  t5 := Try.underlying5
  a5 := Try.isAgg5
  z5 := Try.sizeOf5
  v5 := Try.zeroValue5
  infoByte := by kernel_rfl
  cellsByte := by kernel_rfl
  sizeByte := by kernel_rfl
  neB5 := by decide }
open Go.RowKit in
theorem Try.strings_Join_none (a : Option Addr) (c : Nat) (sep : ByteArray) (w : World) :
    Calls Try.prog 81 #[.slice a 0 c, .string sep] w fun e w' => e = .returned (.string ⟨#[]⟩) ∧ w' = w := Any.strings_Join_none Try.lays156 Try.Builder_Extra_156 a c sep w
open Go.RowKit in
theorem Try.strings_Join (bk o c : Nat) (xs : List ByteArray) (sep : ByteArray) (w : World) (hcells : ∀ (j : Nat) x, xs[j]? = some x → w.cell? ⟨bk, o + j, none⟩ = some (.string x)) (hbk : bk < w.heap.size) (hN : xs.length ≤ 140737488355328) (hcap : xs.length ≤ c) (hlen : (Lib.join (xs.map (·.data.toList)) sep.data.toList).length ≤ 140737488355328) :
    Calls Try.prog 81 #[.slice (some ⟨bk, o, none⟩) xs.length c, .string sep] w fun e w' => e = .returned (.string ⟨(Lib.join (xs.map (·.data.toList)) sep.data.toList).toArray⟩) ∧ Below w.heap.size w w' := Any.strings_Join Try.lays156 Try.Builder_Extra_156 bk o c xs sep w hcells hbk hN hcap hlen
def Try.lays137_ren : Go.Shelf.Ren := ⟨fun | 137 => 120 | 217 => 144 | 266 => 160 | n => n, fun | 9 => 9 | 5 => 5 | 3 => 3 | n => n, fun | n => n⟩
theorem Try.lays137 : Go.Proofs.Lays.n137 Try.prog Try.lays137_ren := {
  mixed := by kernel_rfl
  f137 := Try.func120.trans (congrArg some (by kernel_rfl))
  f217 := Try.func144.trans (congrArg some (by kernel_rfl))
  f266 := Try.func160.trans (congrArg some (by kernel_rfl))
  t3 := Try.underlying3
  a3 := Try.isAgg3
  z3 := Try.sizeOf3
  v3 := Try.zeroValue3
  t5 := Try.underlying5
  a5 := Try.isAgg5
  z5 := Try.sizeOf5
  v5 := Try.zeroValue5
  t9 := Try.underlying9
  a9 := Try.isAgg9
  z9 := Try.sizeOf9
  v9 := Try.zeroValue9 }
open Go.RowKit in
theorem Try.strings_IndexByte (s : ByteArray) (c : Int) (w : World) :
    Calls Try.prog 120 #[.string s, .int .u8 c] w fun e w' => e = .returned (.int .i64 (Lib.indexByte s.data.toList c.toNat.toUInt8)) ∧ w' = w := Any.strings_IndexByte Try.lays137 s c w
def Try.lays143_ren : Go.Shelf.Ren := ⟨fun | 143 => 82 | 219 => 122 | 217 => 144 | 225 => 146 | 224 => 147 | 267 => 148 | 266 => 160 | 314 => 162 | n => n, fun | 9 => 9 | 3 => 3 | 4 => 4 | 5 => 5 | 46 => 183 | 146 => 200 | 51 => 199 | n => n, fun | 1 => 0 | n => n⟩
theorem Try.lays143 : Go.Proofs.Lays.n143 Try.prog Try.lays143_ren := {
  mixed := by kernel_rfl
  f143 := Try.func82.trans (congrArg some (by kernel_rfl))
  f217 := Try.func144.trans (congrArg some (by kernel_rfl))
  f219 := Try.func122.trans (congrArg some (by kernel_rfl))
  f224 := Try.func147.trans (congrArg some (by kernel_rfl))
  f225 := Try.func146.trans (congrArg some (by kernel_rfl))
  f266 := Try.func160.trans (congrArg some (by kernel_rfl))
  f267 := Try.func148.trans (congrArg some (by kernel_rfl))
  f314 := Try.func162.trans (congrArg some (by kernel_rfl))
  t3 := Try.underlying3
  a3 := Try.isAgg3
  z3 := Try.sizeOf3
  v3 := Try.zeroValue3
  t4 := Try.underlying4
  a4 := Try.isAgg4
  z4 := Try.sizeOf4
  v4 := Try.zeroValue4
  t5 := Try.underlying5
  a5 := Try.isAgg5
  z5 := Try.sizeOf5
  v5 := Try.zeroValue5
  t9 := Try.underlying9
  a9 := Try.isAgg9
  z9 := Try.sizeOf9
  v9 := Try.zeroValue9
  t46 := Try.underlying183
  a46 := Try.isAgg183
  z46 := Try.sizeOf183
  v46 := Try.zeroValue183
  t51 := Try.underlying199
  a51 := Try.isAgg199
  z51 := Try.sizeOf199
  v51 := Try.zeroValue199
  t146 := Try.underlying200
  a146 := Try.isAgg200
  z146 := Try.sizeOf200
  v146 := Try.zeroValue200
  g1 := by kernel_rfl }
open Go.RowKit Go.Lib in
theorem Try.strings_Index_one (s : ByteArray) (c : UInt8) (w : World) :
    Calls Try.prog 82 #[.string s, .string ⟨#[c]⟩] w fun e w' => e = .returned (.int .i64 (Lib.indexByte s.data.toList c)) ∧ w' = w := Any.strings_Index_one Try.lays143 s c w
open Go.RowKit Go.Lib in
theorem Try.strings_Index (s sub : ByteArray) (m : Int) (w : World) (hs : s.size < 4294967281) (hm : w.cell? ⟨0, 0, none⟩ = some (.int .i64 m)) :
    Calls Try.prog 82 #[.string s, .string sub] w fun e w' => e = .returned (.int .i64 (Lib.index s.data.toList sub.data.toList)) ∧ w' = w := Any.strings_Index Try.lays143 s sub m w hs hm
def Try.lays144_ren : Go.Shelf.Ren := ⟨fun | 144 => 84 | 143 => 82 | 219 => 122 | 217 => 144 | 225 => 146 | 224 => 147 | 267 => 148 | 266 => 160 | 314 => 162 | n => n, fun | 9 => 9 | 4 => 4 | 3 => 3 | 5 => 5 | 46 => 183 | 146 => 200 | 51 => 199 | n => n, fun | 1 => 0 | n => n⟩
theorem Try.lays144 : Go.Proofs.Lays.n144 Try.prog Try.lays144_ren := {
  mixed := by kernel_rfl
  f143 := Try.func82.trans (congrArg some (by kernel_rfl))
  f144 := Try.func84.trans (congrArg some (by kernel_rfl))
  f217 := Try.func144.trans (congrArg some (by kernel_rfl))
  f219 := Try.func122.trans (congrArg some (by kernel_rfl))
  f224 := Try.func147.trans (congrArg some (by kernel_rfl))
  f225 := Try.func146.trans (congrArg some (by kernel_rfl))
  f266 := Try.func160.trans (congrArg some (by kernel_rfl))
  f267 := Try.func148.trans (congrArg some (by kernel_rfl))
  f314 := Try.func162.trans (congrArg some (by kernel_rfl))
  t3 := Try.underlying3
  a3 := Try.isAgg3
  z3 := Try.sizeOf3
  v3 := Try.zeroValue3
  t4 := Try.underlying4
  a4 := Try.isAgg4
  z4 := Try.sizeOf4
  v4 := Try.zeroValue4
  t5 := Try.underlying5
  a5 := Try.isAgg5
  z5 := Try.sizeOf5
  v5 := Try.zeroValue5
  t9 := Try.underlying9
  a9 := Try.isAgg9
  z9 := Try.sizeOf9
  v9 := Try.zeroValue9
  t46 := Try.underlying183
  a46 := Try.isAgg183
  z46 := Try.sizeOf183
  v46 := Try.zeroValue183
  t51 := Try.underlying199
  a51 := Try.isAgg199
  z51 := Try.sizeOf199
  v51 := Try.zeroValue199
  t146 := Try.underlying200
  a146 := Try.isAgg200
  z146 := Try.sizeOf200
  v146 := Try.zeroValue200
  g1 := by kernel_rfl }
open Go.RowKit Go.Lib in
theorem Try.strings_Contains_one (s : ByteArray) (c : UInt8) (w : World) :
    Calls Try.prog 84 #[.string s, .string ⟨#[c]⟩] w fun e w' => e = .returned (.bool (decide (0 ≤ Lib.indexByte s.data.toList c))) ∧ w' = w := Any.strings_Contains_one Try.lays144 s c w
end Go.Proofs
end

section
set_option linter.unusedVariables false
set_option linter.unusedSimpArgs false
namespace Go.Proofs.Ytfiamddinkokbaa
open Go.RowKit Go.Shelf Go.Proofs.YtfiamddinkokbaaW.PrintWords
attribute [local go_sem] Oper.semAt_some
def leftIn (B : Nat) (W : World) : Nat := match W.cell? ⟨B, 0, none⟩ with | some (.string s) => s.size | _ => 0
theorem leftIn_eq {B : Nat} {W : World} {s : ByteArray} (h : W.cell? ⟨B, 0, none⟩ = some (.string s)) : leftIn B W = s.size := by simp [leftIn, h]
theorem own_lower {w : World} {base base' : Nat} {e : TypeId} {size n : Nat} {v : Value} {xs : List Value} (hb : base' ≤ base) (h : w.ownsRow base e size v n xs) : w.ownsRow base' e size v n xs := by
  obtain ⟨h1, h2⟩ := h
  refine ⟨h1, ?_⟩
  rcases h2 with h2 | ⟨g, cap, cur, hv, hg, r⟩
  · exact Or.inl h2
  · exact Or.inr ⟨g, cap, cur, hv, Nat.le_trans hb hg, r⟩
theorem dropLine_lt : ∀ l : List UInt8, l ≠ [] → (dropLine l).length < l.length
  | [], h => absurd rfl h
  | c :: t, _ => by
    by_cases hc : c = 10
    · simp [dropLine, hc]
    · by_cases ht : t = []
      · subst ht; simp [dropLine, hc]
      · have := dropLine_lt t ht
        simp [dropLine, hc]; omega
set_option maxRecDepth 100000 in
set_option maxHeartbeats 1000000 in
theorem lines1_in (n : Nat) (hn : 1 ≤ n) (l B : Nat) (s0 : ByteArray) (hsz : s0.size ≤ 4000000000) (J : List ByteArray → World → Prop)
    (hset : ∀ s W v, J s W → J s (W.setCell ⟨B, 0, none⟩ v)) (hdr : ∀ s W, J s W → J s W.drew)
    (hY : ∀ pre x W1, J pre W1 → pre.length < (splitB s0).length → YieldAt Fence.wide (n - 1) Try.prog l #[.string x] W1 fun e W' => e = .returned (.bool true) ∧ J (pre ++ [x]) W' ∧ W'.heap[B]? = W1.heap[B]?)
    (W : World) (hB : Boxed W B 9 (.string s0)) (h0 : J [] W) :
    CallsIn Fence.wide n Try.prog 119 #[.func (.yield l) #[] #[], .pointer (some ⟨B, 0, none⟩)] W fun e W' => (∃ v, e = .returned v) ∧ ∃ xs, xs = splitB s0 ∧ J xs W' := by
  refine callsIn_of_wp Try.func119 rfl trivial ?_ rfl
  simp only [Try.ntmps119, List.size_toArray, List.length_cons, List.length_nil, Nat.reduceAdd, Nat.reduceSub, Array.replicate_succ, Array.replicate_zero, List.push_toArray, List.append_toArray, List.nil_append, List.cons_append]
  gi_wp2
  gi_loopw [3, 4] (fun _ _ wr => ∃ (pre : List ByteArray) (s : ByteArray), Boxed wr B 9 (.string s) ∧ s.size ≤ s0.size ∧ splitB s0 = pre ++ splitB s ∧ J pre wr)
    (fun _ _ wr => leftIn B wr)
  case atStart => exact ⟨[], s0, hB, Nat.le_refl _, rfl, h0⟩
  case round =>
    obtain ⟨pre, s, hb, hle, hx, hJ⟩ := hrel
    have hsz' : s.size ≤ 4000000000 := by omega
    have hc := hb.cell
    have hf := hb.frozen
    by_cases hs : s.size = 0
    · have hs0 : decide ((0 : Int) < (s.size : Int)) = false := by simp [hs]
      have hnil : splitB s = [] := by
        have : s.data.toList = [] := List.eq_nil_of_length_eq_zero (by rw [Array.length_toList]; exact hs)
        simp [splitB, this, splitL]
      have HE := Lib.hid (show ∃ xs, xs = splitB s0 ∧ J xs wr from ⟨pre, by rw [hx, hnil, List.append_nil], hJ⟩)
      clear hx hnil
      gi_wp2
      go_end0
      exact ⟨⟨_, rfl⟩, HE.out⟩
    · have hs0 : decide ((0 : Int) < (s.size : Int)) = true := by simp; omega
      have hne : s.data.toList ≠ [] := by
        intro h; apply hs; have := congrArg List.length h; rw [Array.length_toList] at this; exact this
      have hnx : splitB s = toB (takeLine s.data.toList) :: splitB (toB (dropLine s.data.toList)) := by
        unfold splitB; rw [splitL_next _ hne]; simp
      have HD : Hid ((dropLine s.data.toList).length < s.size) := by
        have := dropLine_lt _ hne; rw [Array.length_toList] at this; exact this
      have HX := Lib.hid hx
      have HN := Lib.hid hnx
      clear hx hnx
      have hcall := Try.strings_IndexByte s 10 wr
      rw [show (10 : Int).toNat.toUInt8 = 10 from rfl] at hcall
      by_cases hi : 0 ≤ Lib.indexByte s.data.toList 10
      · obtain ⟨i, hi'⟩ := Int.eq_ofNat_of_zero_le hi
        rw [hi'] at hcall
        have hlt : i < s.size := by
          have := (Lib.indexByte_some hi').1
          have := (List.getElem?_eq_some_iff.1 this).1
          rw [Array.length_toList] at this; exact this
        have hl := line_of_some _ i hi'
        have HL := Lib.hid hl
        clear hl hi hi'
        have HCALL := Lib.hid hcall
        clear hcall
        gi_wp2_with (refine ⟨trivial, ?_⟩; gi_at_call 120; refine (callsIn_wide.2 HCALL.out).mono ?_; rintro e w' ⟨rfl, rfl⟩)
        gi_region
        have hb1 : Boxed (w'.setCell ⟨B, 0, none⟩ (.string (s.extract (i + 1) s.size))).drew B 9 (.string (s.extract (i + 1) s.size)) := hb.set _
        have e1 : s.extract 0 (i + 1) = toB (takeLine s.data.toList) := by
          rw [HL.out.1, ← toB_data (s.extract 0 (i + 1)), Lib.extract_data]; simp
        have e2 : s.extract (i + 1) s.size = toB (dropLine s.data.toList) := by
          rw [HL.out.2, ← toB_data (s.extract (i + 1) s.size), Lib.extract_data, List.take_of_length_le (by rw [List.length_drop, Array.length_toList]; exact Nat.le_refl _)]
        have hJ1 : J pre (w'.setCell ⟨B, 0, none⟩ (.string (s.extract (i + 1) s.size))).drew := hdr _ _ (hset _ _ _ hJ)
        have hlen : pre.length < (splitB s0).length := by rw [HX.out, HN.out]; simp
        obtain ⟨fn, tmps, assign, body, hy, hR⟩ := hY pre (s.extract 0 (i + 1)) _ hJ1 hlen
        have E1 := Lib.hid e1
        have E2 := Lib.hid e2
        clear e1 e2 hlen
        gi_wp2
        refine hR.mono ?_
        rintro e W3 ⟨rfl, hJ3, hk3⟩
        have hb3 : Boxed W3 B 9 (.string (s.extract (i + 1) s.size)) := hk3.trans hb1
        gi_wp2
        go_roundw
        case rel =>
          refine ⟨pre ++ [s.extract 0 (i + 1)], s.extract (i + 1) s.size, hb3, ?_, ?_, hJ3⟩
          · rw [E2.out, toB_size]; have := HD.out; omega
          · rw [HX.out, HN.out, E1.out, E2.out]; simp
        case measure =>
          rw [leftIn_eq hb3.cell, leftIn_eq hc, E2.out, toB_size]; exact HD.out
      · have hi0 : Lib.indexByte s.data.toList 10 = -1 := by have := Lib.indexByte_ge s.data.toList 10; omega
        rw [hi0] at hcall
        have hl := line_of_none _ hi0
        have HL := Lib.hid hl
        clear hl hi hi0
        have HCALL := Lib.hid hcall
        clear hcall
        have hb1 : Boxed (wr.setCell ⟨B, 0, none⟩ (.string ⟨#[]⟩)) B 9 (.string ⟨#[]⟩) := hb.set _
        have hJ1 : J pre (wr.setCell ⟨B, 0, none⟩ (.string ⟨#[]⟩)) := hset _ _ _ hJ
        have hlen : pre.length < (splitB s0).length := by rw [HX.out, HN.out]; simp
        obtain ⟨fn, tmps, assign, body, hy, hR⟩ := hY pre s _ hJ1 hlen
        clear hlen
        gi_wp2_with (refine ⟨trivial, ?_⟩; gi_at_call 120; refine (callsIn_wide.2 HCALL.out).mono ?_; rintro e w' ⟨rfl, rfl⟩)
        refine hR.mono ?_
        rintro e W3 ⟨rfl, hJ3, hk3⟩
        have hb3 : Boxed W3 B 9 (.string ⟨#[]⟩) := hk3.trans hb1
        gi_wp2
        go_roundw
        case rel =>
          refine ⟨pre ++ [s], ⟨#[]⟩, hb3, Nat.zero_le _, ?_, hJ3⟩
          rw [HX.out, HN.out, HL.out.1, HL.out.2, toB_data]; simp [splitB, splitL, toB]
        case measure =>
          rw [leftIn_eq hb3.cell, leftIn_eq hc]
          show 0 < s.size
          omega
theorem lines_seq (n : Nat) (hn : 1 ≤ n) (B : Nat) (s0 : ByteArray) (hsz : s0.size ≤ 4000000000) :
    SeqCell Fence.wide n Try.prog 119 #[.pointer (some ⟨B, 0, none⟩)] (fun x : ByteArray => #[Value.string x]) B (.cells #[.string s0] 9 (0, 0)) (fun xs => xs = splitB s0) (splitB s0).length :=
  fun l J W hB hset hdr hY h0 => lines1_in n hn l B s0 hsz J hset hdr hY W hB h0
set_option maxHeartbeats 1000000 in
theorem lines_in (n : Nat) (s : ByteArray) (w : World) :
    CallsIn Fence.wide n Try.prog 80 #[.string s] w fun e w' => e = .returned (.func (.func 119) #[] #[.pointer (some ⟨w.heap.size, 0, none⟩)]) ∧ w' = w.alloc (.cells #[.string s] 9) := by
  refine callsIn_of_wp Try.func80 rfl trivial ?_ rfl
  simp only [Try.ntmps80, List.size_toArray, List.length_cons, List.length_nil, Nat.reduceAdd, Nat.reduceSub, Array.replicate_succ, Array.replicate_zero, List.push_toArray, List.append_toArray, List.nil_append, List.cons_append]
  gi_wp2
  go_ret
  exact ⟨rfl, rfl⟩
theorem split_info : (Try.prog.info? 9).map (fun i => (i.zero, i.size, i.bytes)) = some (some (.string ⟨#[]⟩), 1, 16) := by kernel_rfl
set_option maxRecDepth 100000 in
set_option maxHeartbeats 2000000 in
theorem appendSeq_in (n : Nat) (hn : 3 ≤ n) (s : ByteArray) (hsz : s.size ≤ 4000000000) (n₀ B : Nat) (w0 w : World) (h0B : n₀ ≤ B) (hw0 : n₀ ≤ w0.heap.size) (hbel : Below n₀ w0 w) (hB : Boxed w B 9 (.string s)) :
    CallsIn Fence.wide n Try.prog 118 #[.slice none 0 0, .func (.func 119) #[] #[.pointer (some ⟨B, 0, none⟩)]] w fun e W' => ∃ v, e = .returned v ∧ W'.ownsRow n₀ 9 1 v (splitB s).length ((splitB s).map Value.string) ∧ Below n₀ w0 W' := by
  have h1 : 1 ≤ n := by omega
  obtain ⟨i0, hi, hz0, hz1, hz2⟩ := info_parts split_info
  refine callsIn_of_wp_marks Try.func118 rfl trivial ?_ rfl
  simp only [Try.ntmps118, List.size_toArray, List.length_cons, List.length_nil, Nat.reduceAdd, Nat.reduceSub, Array.replicate_succ, Array.replicate_zero, List.push_toArray, List.append_toArray, List.nil_append, List.cons_append]
  have hBlt := hB.lt
  have bO := Boxed.new w 36 (.slice none 0 0)
  have hB1 : Boxed (w.alloc (.cells #[.slice none 0 0] 36)) B 9 (.string s) := hB.alloc _
  have hbel1 : Below n₀ w0 (w.alloc (.cells #[.slice none 0 0] 36)) := hbel.alloc (Nat.le_trans hw0 hbel.size) _
  have hlen := splitL_length_le s.data.toList
  have hlen2 : (splitB s).length ≤ 4000000000 := by
    unfold splitB; rw [List.length_map]; rw [Array.length_toList] at hlen; exact Nat.le_trans hlen hsz
  gi_wp2
  refine wpIn_rangeFunc_cell rfl h1 (gf := 119) (lb := #[.pointer (some ⟨B, 0, none⟩)]) rfl trivial (enters_of Try.func119 (by kernel_rfl) rfl)
    (lines_seq (n - 1) (by omega) B s hsz) hB1 (fun _ => rfl)
    (fun pre W => (∃ v, Boxed W w.heap.size 36 v ∧ W.ownsRow w.heap.size 9 1 v pre.length (pre.map Value.string) ∧ True) ∧ Below n₀ w0 W ∧ w.heap.size ≤ W.heap.size)
    ?own ?setB ?drew ⟨⟨_, bO, World.ownsRow_nil _ _ _ _, trivial⟩, hbel1, by simp⟩
    (fun x => { tmps := #[.slice none 0 0, .func (.func 119) #[] #[.pointer (some ⟨B, 0, none⟩)], .pointer (some ⟨w.heap.size, 0, none⟩), undef, .slice none 0 0, .string x, .func (.func 119) #[] #[.pointer (some ⟨B, 0, none⟩)], .string x, undef, undef, undef, undef, undef], defers := [] }) ?assign ?body ?done
  case own => exact OwnFrom.and (Own.from (holdsRow_own w.heap.size w.heap.size 36 9 1 (fun pre : List ByteArray => pre.length) (fun pre => pre.map Value.string) (fun _ _ => True)) _) (OwnFrom.and (ownFrom_below hw0 (by have := hbel.size; simp; omega)) (fun _ _ _ _ hs hg _ => Nat.le_trans hs hg.size))
  case setB =>
    rintro pre W v ⟨⟨u, hu, hr, _⟩, hb, hz⟩
    refine ⟨⟨u, hu.kept (grownBy_setCell' W B v) (by simp; omega), ownsRow_setCell_below hr hBlt v, trivial⟩, hb.setCell (p := ⟨B, 0, none⟩) h0B v, ?_⟩
    simpa [World.setCell] using hz
  case drew =>
    rintro pre W ⟨⟨u, hu, hr, _⟩, hb, hz⟩
    exact ⟨⟨u, hu, hr, trivial⟩, hb.drew, hz⟩
  case assign =>
    intro l x W K hK
    gi_wp2
    exact hK
  case body =>
    rintro l pre x W ⟨⟨v, hv, hrow, _⟩, hb, hz⟩ hlt
    have hc := hv.cell
    gi_wp2_with (gi_at_builtin; refine wpListIn_append_own _ rfl _ _ 36 rfl w.heap.size 9 i0 (.string ⟨#[]⟩) 1 16 Try.underlying36 hi hz0 hz1 hz2 rfl (by decide) _ _ _ rfl (hrow.alloc _) ⟨W.heap.size, 0, none⟩ 1 1 [.string x] rfl rfl (cell_one_new _ _ _) (by simp [Value.oneCell']) (by unfold maxLen; omega) (by omega) (by simp; omega) ?_; intro v' w1 hown' hgrow _; obtain ⟨g', cap', rfl⟩ := ownsRow_succ hown'; obtain ⟨hv1, hv2, hr2, hk2, hb2⟩ := hv.appended (by decide) hrow hz (Nat.le_refl _) hown' hgrow; have hc1 := hv1.cell; have hf1 := hv1.frozen)
    exact ⟨hk2.from _, hb2.block B hBlt, ⟨_, hv2, hr2⟩, hb.trans (hb2.mono (Nat.le_trans h0B (Nat.le_of_lt hBlt))), by have := hb2.size; simp [World.setCell] at this; omega⟩
  case done =>
    rintro D ys W hD rfl ⟨⟨v, hv, hrow, _⟩, hb, hz⟩ hK
    have hc := hv.cell
    gi_wp2
    refine ⟨by simp, .inl ⟨_, _, rfl, run_takeDeferred hK, ?_⟩⟩
    have hrow' := ownsRow_putObj hrow (.deferred none) hK rfl
    exact ⟨_, results_tmp rfl _ _ _, v, rfl, own_lower (Nat.le_trans h0B (Nat.le_of_lt hBlt)) hrow', hb.grown (grownBy_putObj' W D _) (Nat.le_trans hw0 hb.size) (fun k e => by cases e; simp at hD; omega)⟩
set_option maxHeartbeats 1000000 in
theorem collect_in (n : Nat) (hn : 4 ≤ n) (s : ByteArray) (hsz : s.size ≤ 4000000000) (n₀ B : Nat) (w0 w : World) (h0B : n₀ ≤ B) (hw0 : n₀ ≤ w0.heap.size) (hbel : Below n₀ w0 w) (hB : Boxed w B 9 (.string s)) :
    CallsIn Fence.wide n Try.prog 79 #[.func (.func 119) #[] #[.pointer (some ⟨B, 0, none⟩)]] w fun e W' => ∃ v, e = .returned v ∧ W'.ownsRow n₀ 9 1 v (splitB s).length ((splitB s).map Value.string) ∧ Below n₀ w0 W' := by
  refine callsIn_of_wp Try.func79 rfl trivial ?_ rfl
  simp only [Try.ntmps79, List.size_toArray, List.length_cons, List.length_nil, Nat.reduceAdd, Nat.reduceSub, Array.replicate_succ, Array.replicate_zero, List.push_toArray, List.append_toArray, List.nil_append, List.cons_append]
  have h1 : 1 ≤ n := by omega
  have hA := appendSeq_in (n - 1) (by omega) s hsz n₀ B w0 w h0B hw0 hbel hB
  have HA := Lib.hid hA
  clear hA
  gi_wp2_with (refine ⟨trivial, ?_⟩; gi_at_call 118; refine HA.out.mono ?_; rintro e w' ⟨v, rfl, hr, hb⟩)
  go_ret
  exact ⟨v, rfl, hr, hb⟩
set_option maxHeartbeats 1000000 in
theorem split_calls (s : ByteArray) (hsz : s.size ≤ 4000000000) (w : World) :
    Calls Try.prog 29 #[.string s] w fun e w' => ∃ v, e = .returned v ∧ w'.ownsRow w.heap.size 9 1 v (splitB s).length ((splitB s).map Value.string) ∧ Below w.heap.size w w' := by
  refine (callsIn_wide (n := 9)).1 ?_
  refine callsIn_of_wp Try.func29 rfl trivial ?_ rfl
  simp only [Try.ntmps29, List.size_toArray, List.length_cons, List.length_nil, Nat.reduceAdd, Nat.reduceSub, Array.replicate_succ, Array.replicate_zero, List.push_toArray, List.append_toArray, List.nil_append, List.cons_append]
  have hC := collect_in 8 (by omega) s hsz w.heap.size w.heap.size w _ (Nat.le_refl _) (Nat.le_refl _) ((Below.refl _ _).alloc (Nat.le_refl _) _) (Boxed.new w 9 (.string s))
  have HC := Lib.hid hC
  clear hC
  gi_wp2_with (refine ⟨trivial, ?_⟩; first | (gi_at_call 80; refine (lines_in 8 s w).mono ?_; rintro e w' ⟨rfl, rfl⟩) | (gi_at_call 79; refine HC.out.mono ?_; rintro e w' ⟨v, rfl, hr, hb⟩))
  go_ret
  exact ⟨v, rfl, hr, hb⟩
#print axioms split_calls
end Go.Proofs.Ytfiamddinkokbaa
end

section
set_option linter.unusedVariables false
set_option linter.unusedSimpArgs false
namespace Go.Proofs.Ytfiamddinkokbaa
open Go.RowKit Go.Shelf Go.Proofs.YtfiamddinkokbaaW.PrintWords
def cutL (c : UInt8) (l : List UInt8) : List UInt8 := l.dropWhile (· == c)
theorem cutL_eq (c : UInt8) (l : List UInt8) (k : Nat) (h : ∀ j, j < k → l[j]? = some c) (hk : ∀ x, l[k]? = some x → x ≠ c) : cutL c l = l.drop k := by
  induction k generalizing l with
  | zero =>
    cases l with
    | nil => rfl
    | cons a t => simp [cutL, hk a (by simp)]
  | succ k ih =>
    cases l with
    | nil => simp [cutL]
    | cons a t =>
      have h0 : a = c := by have := h 0 (by omega); simpa using this
      have := ih t (fun j hj => by have := h (j + 1) (by omega); simpa using this) (fun x hx => hk x (by simpa using hx))
      simp only [cutL] at this ⊢
      simp [h0, this]
theorem getElem?_byte (s : ByteArray) (k : Nat) (h : k < s.size) : s.data.toList[k]? = some s[k] := by
  rw [List.getElem?_eq_getElem (by rw [Array.length_toList]; exact h)]; rfl
theorem iterPos_of {w : World} {k p : Nat} {s : ByteArray} (h : w.heap[k]? = some (.stringIter s p)) : w.iterPos k = p := by simp [World.iterPos, h]
set_option maxRecDepth 100000 in
set_option maxHeartbeats 2000000 in
theorem cutLeft_calls (s : ByteArray) (hsz : s.size ≤ 4000000000) (c : UInt8) (hc : c.toNat < 128) (w : World) :
    Calls Try.prog 85 #[.string s, .string ⟨#[c]⟩] w fun e w' => e = .returned (.string (toB (cutL c s.data.toList))) ∧ Below w.heap.size w w' := by
  go_enter Try.func85, Try.ntmps85
  go_wp2
  go_loopw [5, 6, 7, 9] (fun _ _ _ _ wr => ∃ k : Nat, k ≤ s.size ∧ wr.heap[w.heap.size]? = some (.stringIter s k) ∧ Below w.heap.size w wr ∧ Hid (∀ j, j < k → s.data.toList[j]? = some c))
    (fun _ _ _ _ wr => s.size - wr.iterPos w.heap.size)
  case atStart => exact ⟨0, Nat.zero_le _, World.iter_heap _ _ _, (Below.refl _ _).alloc (Nat.le_refl _) _, fun j hj => by omega⟩
  case round =>
    obtain ⟨wo, rfl⟩ : ∃ wo : World, wo = wr := ⟨_, rfl⟩
    obtain ⟨k, hk, hit, hb, HC⟩ := hrel
    have HB := Lib.hid hb
    clear hb
    by_cases hlt : k < s.size
    · by_cases heq : s[k] = c
      · have hn := Lib.run_next_ascii_at (P := Try.prog) wo w.heap.size s k 0 hit hlt (by rw [heq]; exact hc)
        rw [heq] at hn
        have hit2 : (wo.iterAt w.heap.size s (k + 1)).heap[w.heap.size]? = some (.stringIter s (k + 1)) := Lib.iterAt_heap _ _ _ _ _ hit
        have HB2 : Hid (Below w.heap.size w (wo.iterAt w.heap.size s (k + 1))) := Lib.below_iterAt HB.out (Nat.le_refl _) _ _
        have hlt2 : w.heap.size < (wo.iterAt w.heap.size s (k + 1)).heap.size := (Array.getElem?_eq_some_iff.1 hit2).1
        have HM : Hid (wo.iterPos w.heap.size = k) := iterPos_of hit
        have H2 := Lib.hid (And.intro hit2 (And.intro HB2.out hlt2))
        clear hit2 HB2 hlt2 hit
        go_wp2
        obtain ⟨wm, hwm⟩ : ∃ wm : World, wm = wo.iterAt w.heap.size s (k + 1) := ⟨_, rfl⟩
        rw [← hwm] at H2 ⊢
        clear hwm hn
        go_loopw [7, 9] (fun v7 _ wr => ∃ p : Nat, p ≤ 1 ∧ wr.heap[wm.heap.size]? = some (.stringIter ⟨#[c]⟩ p) ∧ Hid (wr.heap[w.heap.size]? = some (.stringIter s (k + 1))) ∧ Hid (Below w.heap.size w wr) ∧ v7 = .bool (decide (p = 1)))
          (fun _ _ wr => 1 - wr.iterPos wm.heap.size)
        case atStart => exact ⟨0, by omega, World.iter_heap _ _ _, (Below.heap_alloc _ _ _ H2.out.2.2).trans H2.out.1, (H2.out.2.1.alloc (by have := H2.out.2.2; omega) _), by rfl⟩
        case round =>
          obtain ⟨p, hp, hit3, HI, HB3, rfl⟩ := hrel
          have hlt3 : wm.heap.size < wr.heap.size := (Array.getElem?_eq_some_iff.1 hit3).1
          by_cases hp0 : p = 0
          · subst hp0
            have hn := Lib.run_next_ascii_at (P := Try.prog) wr wm.heap.size ⟨#[c]⟩ 0 0 hit3 (by show 0 < 1; omega) hc
            have hn2 : (Instr.next (.pointer (some ⟨wm.heap.size, 0, none⟩)) true 0).run Try.prog wr = .ok (.tuple #[.bool true, .int .i64 (0 : Nat), .int .i32 c.toNat]) (wr.iterAt wm.heap.size ⟨#[c]⟩ 1) := hn
            clear hn
            have hit4 := Lib.iterAt_heap wr wm.heap.size ⟨#[c]⟩ 0 1 hit3
            have HI4 : Hid ((wr.iterAt wm.heap.size ⟨#[c]⟩ 1).heap[w.heap.size]? = some (.stringIter s (k + 1))) := (Lib.iterAt_other _ _ _ _ _ (by have := H2.out.2.2; omega)).trans HI.out
            have HB4 : Hid (Below w.heap.size w (wr.iterAt wm.heap.size ⟨#[c]⟩ 1)) := Lib.below_iterAt HB3.out (by have := H2.out.2.2; omega) _ _
            have HP4 : Hid ((wr.iterAt wm.heap.size ⟨#[c]⟩ 1).iterPos wm.heap.size = 1) := iterPos_of hit4
            have HP3 : Hid (wr.iterPos wm.heap.size = 0) := iterPos_of hit3
            have HIT4 := Lib.hid hit4
            clear hit4 hit3
            go_wp2
            go_roundw
            case rel => exact ⟨1, by omega, HIT4.out, HI4, HB4, by simp⟩
            case measure => rw [HP4.out, HP3.out]; omega
          · have hp1 : p = 1 := by omega
            subst hp1
            have hn := Lib.run_next_end_at (P := Try.prog) wr wm.heap.size ⟨#[c]⟩ 1 0 hit3 (by show ¬ 1 < 1; omega)
            clear hit3
            have HP5 : Hid (wr.iterPos w.heap.size = k + 1) := iterPos_of HI.out
            go_wp2
            go_roundw
            case rel =>
              refine ⟨k + 1, by omega, HI.out, HB3.out, fun j hj => ?_⟩
              by_cases hj2 : j < k
              · exact HC.out j hj2
              · have : j = k := by omega
                subst this
                rw [← heq]; exact getElem?_byte s j hlt
            case measure => rw [HP5.out, HM.out]; omega
      · have hn0 := Lib.run_next_any_at (P := Try.prog) wo w.heap.size s k 0 hit hlt
        have hex : ∃ r wd : Nat, r ≠ c.toNat ∧ r ≤ 2147483647 ∧ 1 ≤ wd ∧ (Instr.next (.pointer (some ⟨w.heap.size, 0, none⟩)) true 0).run Try.prog wo = .ok (.tuple #[.bool true, .int .i64 k, .int .i32 r]) (wo.iterAt w.heap.size s (k + wd)) := by
          by_cases ha : (s[k]'hlt).toNat < 128
          · have hd := decode_ascii s k hlt ha
            rw [hd] at hn0
            exact ⟨_, _, fun e => heq (UInt8.toNat_inj.1 e), by omega, Nat.le_refl _, hn0⟩
          · have hd := decode_high s k hlt (by omega)
            exact ⟨_, _, by omega, decode_le s k, hd.2, hn0⟩
        clear hn0
        obtain ⟨r, wd, hr1, hr2, hr3, hn⟩ := hex
        have hrc : ((r : Int) == (c.toNat : Int)) = false := beq_eq_false_iff_ne.2 (by omega)
        have hit2 : (wo.iterAt w.heap.size s (k + wd)).heap[w.heap.size]? = some (.stringIter s (k + wd)) := Lib.iterAt_heap _ _ _ _ _ hit
        have HB2 : Hid (Below w.heap.size w (wo.iterAt w.heap.size s (k + wd))) := Lib.below_iterAt HB.out (Nat.le_refl _) _ _
        have hlt2 : w.heap.size < (wo.iterAt w.heap.size s (k + wd)).heap.size := (Array.getElem?_eq_some_iff.1 hit2).1
        have HM : Hid (wo.iterPos w.heap.size = k) := iterPos_of hit
        have H2 := Lib.hid (And.intro hit2 (And.intro HB2.out hlt2))
        clear hit2 HB2 hlt2 hit
        go_wp2
        obtain ⟨wm, hwm⟩ : ∃ wm : World, wm = wo.iterAt w.heap.size s (k + wd) := ⟨_, rfl⟩
        rw [← hwm] at H2 ⊢
        clear hwm hn
        go_loopw [7, 9] (fun v7 _ wr => ∃ p : Nat, p ≤ 1 ∧ wr.heap[wm.heap.size]? = some (.stringIter ⟨#[c]⟩ p) ∧ Hid (wr.heap[w.heap.size]? = some (.stringIter s (k + wd))) ∧ Hid (Below w.heap.size w wr) ∧ v7 = .bool false)
          (fun _ _ wr => 1 - wr.iterPos wm.heap.size)
        case atStart => exact ⟨0, by omega, World.iter_heap _ _ _, (Below.heap_alloc _ _ _ H2.out.2.2).trans H2.out.1, (H2.out.2.1.alloc (by have := H2.out.2.2; omega) _), by rfl⟩
        case round =>
          obtain ⟨p, hp, hit3, HI, HB3, rfl⟩ := hrel
          have hlt3 : wm.heap.size < wr.heap.size := (Array.getElem?_eq_some_iff.1 hit3).1
          by_cases hp0 : p = 0
          · subst hp0
            have hn := Lib.run_next_ascii_at (P := Try.prog) wr wm.heap.size ⟨#[c]⟩ 0 0 hit3 (by show 0 < 1; omega) hc
            have hn2 : (Instr.next (.pointer (some ⟨wm.heap.size, 0, none⟩)) true 0).run Try.prog wr = .ok (.tuple #[.bool true, .int .i64 (0 : Nat), .int .i32 c.toNat]) (wr.iterAt wm.heap.size ⟨#[c]⟩ 1) := hn
            clear hn
            have hit4 := Lib.iterAt_heap wr wm.heap.size ⟨#[c]⟩ 0 1 hit3
            have HI4 : Hid ((wr.iterAt wm.heap.size ⟨#[c]⟩ 1).heap[w.heap.size]? = some (.stringIter s (k + wd))) := (Lib.iterAt_other _ _ _ _ _ (by have := H2.out.2.2; omega)).trans HI.out
            have HB4 : Hid (Below w.heap.size w (wr.iterAt wm.heap.size ⟨#[c]⟩ 1)) := Lib.below_iterAt HB3.out (by have := H2.out.2.2; omega) _ _
            have HP4 : Hid ((wr.iterAt wm.heap.size ⟨#[c]⟩ 1).iterPos wm.heap.size = 1) := iterPos_of hit4
            have HP3 : Hid (wr.iterPos wm.heap.size = 0) := iterPos_of hit3
            have HIT4 := Lib.hid hit4
            clear hit4 hit3
            go_wp2
            go_roundw
            case rel => exact ⟨1, by omega, HIT4.out, HI4, HB4, rfl⟩
            case measure => rw [HP4.out, HP3.out]; omega
          · have hp1 : p = 1 := by omega
            subst hp1
            have hn := Lib.run_next_end_at (P := Try.prog) wr wm.heap.size ⟨#[c]⟩ 1 0 hit3 (by show ¬ 1 < 1; omega)
            clear hit3
            go_wp2
            go_ret
            refine ⟨?_, HB3.out⟩
            have hend : ∀ x, s.data.toList[k]? = some x → x ≠ c := fun x hx e => by
              rw [getElem?_byte s k hlt] at hx
              exact heq ((Option.some.inj hx).trans e)
            rw [cutL_eq c s.data.toList k HC.out hend, ← Lib.extract_to_end, toB_data]
            rfl
    · have hk2 : k = s.size := by omega
      subst hk2
      have hn := Lib.run_next_end_at (P := Try.prog) wo w.heap.size s s.size 0 hit hlt
      clear hit
      go_wp2
      go_ret
      refine ⟨?_, HB.out⟩
      have hend : ∀ x, s.data.toList[s.size]? = some x → x ≠ c := fun x hx _ => by
        have := (List.getElem?_eq_some_iff.1 hx).1
        rw [Array.length_toList] at this
        exact absurd this (Nat.lt_irrefl _)
      rw [cutL_eq c s.data.toList s.size HC.out hend, List.drop_of_length_le (by rw [Array.length_toList]; exact Nat.le_refl _)]
      rfl
def isSign (c : UInt8) : Bool := c == 60 || c == 124 || c == 61 || c == 62
def runL (l : List UInt8) : Nat := match l with
  | [] => 0
  | c :: _ => if isSign c then l.length - (cutL c l).length else 0
theorem cutL_le (c : UInt8) (l : List UInt8) : (cutL c l).length ≤ l.length := by
  have := (List.dropWhile_sublist (l := l) (fun x => x == c)).length_le
  exact this
theorem sign_index (c : UInt8) : decide (0 ≤ Lib.indexByte [60, 124, 61, 62] c) = isSign c := by
  unfold isSign
  simp only [Lib.indexByte]
  by_cases h1 : c = 60
  · subst h1; decide
  · by_cases h2 : c = 124
    · subst h2; decide
    · by_cases h3 : c = 61
      · subst h3; decide
      · by_cases h4 : c = 62
        · subst h4; decide
        · simp [h1, h2, h3, h4, Ne.symm h1, Ne.symm h2, Ne.symm h3, Ne.symm h4]
set_option maxRecDepth 100000 in
set_option maxHeartbeats 2000000 in
theorem run_calls (s : ByteArray) (hsz : s.size ≤ 4000000000) (w : World) :
    Calls Try.prog 43 #[.string s] w fun e w' => e = .returned (.int .i64 (runL s.data.toList)) ∧ Below w.heap.size w w' := by
  by_cases h0 : s.size = 0
  · have hs : s = ⟨#[]⟩ := by
      have : s.data.toList = [] := List.eq_nil_of_length_eq_zero (by rw [Array.length_toList]; exact h0)
      rw [← toB_data s, this]; rfl
    subst hs
    go_enter Try.func43, Try.ntmps43
    go_wp2
    go_ret
    exact ⟨rfl, Below.refl _ _⟩
  · obtain ⟨c, t, hl⟩ : ∃ c t, s.data.toList = c :: t := by
      cases h : s.data.toList with
      | nil => exact absurd (by have := congrArg List.length h; rw [Array.length_toList] at this; exact this) h0
      | cons c t => exact ⟨c, t, rfl⟩
    have hex : s.extract 0 1 = ⟨#[c]⟩ := by
      rw [← toB_data (s.extract 0 1), Lib.extract_data, hl]; rfl
    have hne : (s.toList == ([] : List UInt8)) = false := by rw [Lib.toList_data, hl]; rfl
    have hne2 : s.toList.isEmpty = false := by rw [Lib.toList_data, hl]; rfl
    have HL := Lib.hid hl
    clear hl
    have hcon := Try.strings_Contains_one ⟨#[60, 124, 61, 62]⟩ c w
    rw [show (⟨#[60, 124, 61, 62]⟩ : ByteArray).data.toList = [60, 124, 61, 62] from rfl, sign_index] at hcon
    have hsz1 : (1 : Int) ≤ s.size := by omega
    by_cases hsg : isSign c = true
    · rw [hsg] at hcon
      have hc : c.toNat < 128 := by
        simp only [isSign, Bool.or_eq_true, beq_iff_eq] at hsg
        rcases hsg with ((rfl | rfl) | rfl) | rfl <;> decide
      have HS := Lib.hid hsg
      have HCON := Lib.hid hcon
      have hcut := cutLeft_calls s hsz c hc w
      have HCUT := Lib.hid hcut
      clear hsg hcon hcut
      go_enter Try.func43, Try.ntmps43
      go_wp2_with (first | (go_at_call 84; refine HCON.out.mono ?_; rintro e w' ⟨rfl, rfl⟩) | (go_at_call 85; refine HCUT.out.mono ?_; rintro e w' ⟨rfl, hb⟩))
      go_ret
      refine ⟨?_, hb⟩
      have e : wrap64 ((s.size : Int) - (cutL c s.data.toList).length) = ((s.data.toList.length - (cutL c s.data.toList).length : Nat) : Int) := by
        have := cutL_le c s.data.toList
        have h2 : s.data.toList.length = s.size := by rw [Array.length_toList]; rfl
        unfold wrap64; omega
      have HE := HS.out
      unfold runL
      rw [e]
      simp only [HL.out, HE, if_true]
      rfl
    · have hsg0 : isSign c = false := by simpa using hsg
      rw [hsg0] at hcon
      have HS := Lib.hid hsg0
      have HCON := Lib.hid hcon
      clear hsg hsg0 hcon
      go_enter Try.func43, Try.ntmps43
      go_wp2_with (first | (go_at_call 84; refine HCON.out.mono ?_; rintro e w' ⟨rfl, rfl⟩))
      go_ret
      refine ⟨?_, Below.refl _ _⟩
      have HE := HS.out
      unfold runL
      simp only [HL.out, HE]
      rfl
#print axioms run_calls
end Go.Proofs.Ytfiamddinkokbaa
end

section
set_option linter.unusedVariables false
set_option linter.unusedSimpArgs false
namespace Go.Proofs.Ytfiamddinkokbaa
open Go.RowKit Go.Shelf Go.Proofs.YtfiamddinkokbaaW.PrintWords
set_option linter.unusedVariables false
theorem ext_split (a0 : ByteArray) (r : List ByteArray) (w : World) (h : (if a0.size ≤ 4000000000 then some (splitB a0) else none) = some r) :
    Calls Try.prog 29 #[.string a0] w fun e w' => ∃ v0_ : Value, e = .returned (v0_) ∧ Kd.R Kd.string 9 w' w.heap.size (fun _ => True) v0_ r ∧ Below w.heap.size w w' := by
  by_cases hs : a0.size ≤ 4000000000
  · rw [if_pos hs] at h
    obtain rfl := Option.some.inj h
    refine (split_calls a0 hs w).mono ?_
    rintro e w' ⟨v, rfl, hr, hb⟩
    exact ⟨v, rfl, Kd.R_of_own hr (fun _ _ => trivial), hb⟩
  · rw [if_neg hs] at h; cases h
theorem ext_run (a0 : ByteArray) (r : Int) (w : World) (h : (if a0.size ≤ 4000000000 then some ((runL a0.data.toList : Nat) : Int) else none) = some r) :
    Calls Try.prog 43 #[.string a0] w fun e w' => e = .returned (.int .i64 r) ∧ Below w.heap.size w w' := by
  by_cases hs : a0.size ≤ 4000000000
  · rw [if_pos hs] at h
    obtain rfl := Option.some.inj h
    exact run_calls a0 hs w
  · rw [if_neg hs] at h; cases h
theorem one_byte (a : ByteArray) (h : a.size = 1) : a = ⟨#[a.data.toList.headD 0]⟩ := by
  have hl : a.data.toList.length = 1 := by rw [Array.length_toList]; exact h
  obtain ⟨c, hc⟩ : ∃ c, a.data.toList = [c] := List.length_eq_one_iff.1 hl
  rw [← toB_data a, hc]; rfl
theorem ext_index (a0 a1 : ByteArray) (r : Int) (w : World) (h : (if a1.size = 1 then some (Lib.indexByte a0.data.toList (a1.data.toList.headD 0)) else none) = some r) :
    Calls Try.prog 82 #[.string a0, .string a1] w fun e w' => e = .returned (.int .i64 r) ∧ Drawn0 w w' := by
  by_cases hs : a1.size = 1
  · rw [if_pos hs] at h
    obtain rfl := Option.some.inj h
    have := Try.strings_Index_one a0 (a1.data.toList.headD 0) w
    rw [← one_byte a1 hs] at this
    refine this.mono ?_
    rintro e w' ⟨rfl, rfl⟩
    exact ⟨rfl, Drawn0.refl _⟩
  · rw [if_neg hs] at h; cases h
theorem C_string_cells {w : World} {A : Option Addr} {xs : List ByteArray} (h : Kd.C Kd.string w A xs.length xs) (hn : 0 < xs.length) :
    ∃ b o, A = some ⟨b, o, none⟩ ∧ b < w.heap.size ∧ ∀ j x, xs[j]? = some x → w.cell? ⟨b, o + j, none⟩ = some (.string x) := by
  obtain ⟨ad, rfl, hc⟩ := h.2.2 hn
  have h0 : ∀ j x, xs[j]? = some x → w.cell? (ad.add j) = some (.string x) := by
    intro j x hj
    obtain ⟨c, hl, hk, hcell⟩ := hc j x hj
    have hk' : c = [Value.string x] := hk
    have := hcell 0 (.string x) (by rw [hk']; rfl)
    simpa [show (Kd.string).sz = 1 from rfl] using this
  obtain ⟨x0, hx0⟩ : ∃ x, xs[0]? = some x := ⟨_, List.getElem?_eq_getElem hn⟩
  obtain ⟨b, o, sp⟩ := ad
  have hcell0 := h0 0 x0 hx0
  have hsp : sp = none := by
    cases sp with
    | none => rfl
    | some q =>
      exfalso
      simp [Addr.add, World.cell?] at hcell0
      split at hcell0 <;> simp_all
  subst hsp
  refine ⟨b, o, rfl, World.block_lt_of_cell? w _ hcell0, fun j x hj => ?_⟩
  have := h0 j x hj
  unfold Addr.add at this
  split at this
  · rename_i hj0; subst hj0; exact this
  · exact this
def joinB (l : List ByteArray) (sep : ByteArray) : ByteArray := toB (Lib.join (l.map (·.data.toList)) sep.data.toList)
theorem ext_join (A0 : Option Addr) (c0 : Nat) (l0 : List ByteArray) (a1 : ByteArray) (r : ByteArray) (w : World) (hr0 : Kd.C Kd.string w A0 l0.length l0) (hc0 : l0.length ≤ c0)
    (h : (if l0.length ≤ 140737488355328 ∧ (joinB l0 a1).size ≤ 140737488355328 then some (joinB l0 a1) else none) = some r) :
    Calls Try.prog 81 #[.slice A0 l0.length c0, .string a1] w fun e w' => e = .returned (.string r) ∧ Below w.heap.size w w' := by
  by_cases hs : l0.length ≤ 140737488355328 ∧ (joinB l0 a1).size ≤ 140737488355328
  · rw [if_pos hs] at h
    obtain rfl := Option.some.inj h
    obtain ⟨h1, h2⟩ := hs
    rw [joinB, toB_size] at h2
    by_cases hn : l0.length = 0
    · have hnil : l0 = [] := List.eq_nil_of_length_eq_zero hn
      subst hnil
      refine (Try.strings_Join_none A0 c0 a1 w).mono ?_
      rintro e w' ⟨rfl, rfl⟩
      exact ⟨rfl, Below.refl _ _⟩
    · obtain ⟨b, o, rfl, hb, hcell⟩ := C_string_cells hr0 (by omega)
      refine (Try.strings_Join b o c0 l0 a1 w hcell hb h1 hc0 h2).mono ?_
      rintro e w' ⟨rfl, hb⟩
      exact ⟨rfl, hb⟩
  · rw [if_neg hs] at h; cases h
end Go.Proofs.Ytfiamddinkokbaa
end

section
set_option linter.unusedVariables false
set_option linter.unusedSimpArgs false
namespace Go.Proofs.Ytfiamddinkokbaa
open Go.RowKit Go.Shelf Go.Maps Go.Proofs.YtfiamddinkokbaaW.PrintWords
set_option linter.unusedVariables false
def numStep (kn : List (List UInt8)) (s : ByteArray) : List (List UInt8) := if s.data.toList ∈ kn then kn else kn ++ [s.data.toList]
def numOf (kn : List (List UInt8)) (s : ByteArray) : Int := (kn.idxOf s.data.toList : Nat)
def numRow : List (List UInt8) → List ByteArray → List Int
  | _, [] => []
  | kn, s :: t => numOf kn s :: numRow (numStep kn s) t
def knRow (kn : List (List UInt8)) (l : List ByteArray) : List (List UInt8) := l.foldl numStep kn
def numAll : List (List UInt8) → List (List ByteArray) → List (List Int)
  | _, [] => []
  | kn, f :: t => numRow kn f :: numAll (knRow kn f) t
def knAll (kn : List (List UInt8)) (fs : List (List ByteArray)) : List (List UInt8) := fs.foldl knRow kn
def numberB (fs : List (List ByteArray)) : List (List Int) := numAll [] fs
theorem numRow_snoc (kn : List (List UInt8)) (l : List ByteArray) (s : ByteArray) : numRow kn (l ++ [s]) = numRow kn l ++ [numOf (knRow kn l) s] := by
  induction l generalizing kn with
  | nil => rfl
  | cons a t ih => simp only [List.cons_append, numRow, knRow, List.foldl_cons]; rw [ih]; rfl
theorem knRow_snoc (kn : List (List UInt8)) (l : List ByteArray) (s : ByteArray) : knRow kn (l ++ [s]) = numStep (knRow kn l) s := by simp [knRow]
theorem numAll_snoc (kn : List (List UInt8)) (fs : List (List ByteArray)) (f : List ByteArray) : numAll kn (fs ++ [f]) = numAll kn fs ++ [numRow (knAll kn fs) f] := by
  induction fs generalizing kn with
  | nil => rfl
  | cons a t ih => simp only [List.cons_append, numAll, knAll, List.foldl_cons]; rw [ih]; rfl
theorem knAll_snoc (kn : List (List UInt8)) (fs : List (List ByteArray)) (f : List ByteArray) : knAll kn (fs ++ [f]) = knRow (knAll kn fs) f := by simp [knAll]
theorem numRow_length (kn : List (List UInt8)) (l : List ByteArray) : (numRow kn l).length = l.length := by
  induction l generalizing kn with
  | nil => rfl
  | cons a t ih => simp [numRow, ih]
theorem numAll_length (kn : List (List UInt8)) (fs : List (List ByteArray)) : (numAll kn fs).length = fs.length := by
  induction fs generalizing kn with
  | nil => rfl
  | cons a t ih => simp [numAll, ih]
def Knows (D : DataW Unit) (kn : List (List UInt8)) : Prop :=
  Maps.Tidy D ∧ Maps.size D = kn.length ∧ ∀ s : List UInt8, Maps.has D (.string s) = decide (s ∈ kn) ∧ (s ∈ kn → D.atKey (.string s) (.lit (.int .i64 0)) = .lit (.int .i64 (kn.idxOf s : Nat)))
theorem knows_nil : Knows (.map []) [] := ⟨Maps.tidy_empty, rfl, fun s => ⟨by simp [Maps.has], fun h => by simp at h⟩⟩
theorem knows_put {D : DataW Unit} {kn : List (List UInt8)} (h : Knows D kn) (s : List UInt8) (hs : s ∉ kn) : Knows (D.put (.string s) (.lit (.int .i64 (kn.length : Nat)))) (kn ++ [s]) := by
  obtain ⟨h1, h2, h3⟩ := h
  have hh := (h3 s).1
  rw [decide_eq_false hs] at hh
  have hk : WideAt.IsKeyLit (.string s) := trivial
  refine ⟨h1.put hk _, ?_, fun t => ?_⟩
  · rw [Maps.size_put h1, hh, h2]; simp
  · by_cases ht : t = s
    · subst ht
      refine ⟨?_, fun _ => ?_⟩
      · rw [Maps.has_put_same h1.isMap hk]; simp
      · rw [Maps.atKey_put_same h1.isMap hk]
        rw [List.idxOf_append, if_neg hs]; simp
    · have hne : (Lit.string t) ≠ .string s := fun e => ht (by injection e)
      refine ⟨?_, fun hm => ?_⟩
      · rw [Maps.has_put_other hne, (h3 t).1]; simp [ht]
      · rw [Maps.atKey_put_other hne]
        have hm' : t ∈ kn := by simpa [ht] using hm
        rw [(h3 t).2 hm', List.idxOf_append, if_pos hm']
theorem num_keyed : Maps.Keyed Try.prog 9 := Maps.string_keyed Try.underlying9
theorem num_zero (w : World) : (zeroValue 3).run Try.prog w = .ok (.int .i64 0) w := by kernel_rfl
theorem num_info3 : (Try.prog.info? 3).map (fun i => (i.zero, i.size, i.bytes)) = some (some (.int .i64 0), 1, 8) := by kernel_rfl
theorem num_info50 : (Try.prog.info? 50).map (fun i => (i.zero, i.size, i.bytes)) = some (some (.slice none 0 0), 1, 24) := by kernel_rfl
def total (fs : List (List ByteArray)) : Nat := (fs.map List.length).sum
set_option maxRecDepth 100000 in
set_option maxHeartbeats 4000000 in
theorem number_calls (A0 : Option Addr) (c0 : Nat) (l0 : List (List ByteArray)) (w : World) (hr0 : Kd.C (Kd.slice 9 Kd.string) w A0 l0.length l0) (hc0 : l0.length ≤ c0) (hsz : ∀ f ∈ l0, ∀ s ∈ f, s.size ≤ 4000000000) (ht : total l0 ≤ 4000000000) (hl0 : l0.length ≤ 4000000000) :
    Calls Try.prog 38 #[.slice A0 l0.length c0] w fun e w' => ∃ v0_ : Value, e = .returned (v0_) ∧ Kd.S (Kd.slice 3 (Kd.int .i64)) 50 w' w.heap.size (fun _ => True) v0_ (numberB l0) ∧ Below w.heap.size w w' := by
  have hmm := @run_makeMap Try.prog
  go_enter Try.func38, Try.ntmps38
  go_wp2
  go_loopw [4, 15] (fun v4 v15 wr => ∃ i : Nat, i ≤ l0.length ∧ v15 = .int .i64 i ∧ Aside0 (Kd.S (Kd.slice 3 (Kd.int .i64)) 50 wr w.heap.size (fun k => k ≠ w.heap.size) v4 (numAll [] (l0.take i))) ∧ Aside0 (∃ D : DataW Unit, wr.ownsMap Try.prog 9 (plainElem Try.prog 3) w.heap.size (total (l0.take i)) D ∧ Knows D (knAll [] (l0.take i))) ∧ Aside0 (Below w.heap.size w wr))
    (fun _ v15 _ => l0.length - (intOf v15).toNat)
  case atStart =>
    exact ⟨0, Nat.zero_le _, rfl, ⟨Kd.S_nil _ _ _ _ _⟩, ⟨.map [], World.ownsMap_made _ _ _ _, knows_nil⟩, ⟨(Below.refl _ _).alloc (Nat.le_refl _) _⟩⟩
  case round =>
    obtain ⟨i, hi, rfl, HS, HM, HB⟩ := hrel
    by_cases hlt : i < l0.length
    · obtain ⟨f, hf⟩ : ∃ f, l0[i]? = some f := ⟨_, List.getElem?_eq_getElem hlt⟩
      obtain ⟨ad, rfl, hc⟩ := hr0.2.2 (by omega)
      obtain ⟨c, hcl, hck, hcell⟩ := hc i f hf
      obtain ⟨Ai, ci, rfl, hfc, hfr⟩ := hck
      have hcw : w.cell? (ad.add i) = some (.slice Ai f.length ci) := by
        have := hcell 0 _ rfl
        simpa [show (Kd.slice 9 Kd.string).sz = 1 from rfl] using this
      have hcr : wr.cell? (ad.add i) = some (.slice Ai f.length ci) := (HB.out.cell (World.block_lt_of_cell? w _ hcw)).trans hcw
      have htk : l0.take (i + 1) = l0.take i ++ [f] := by rw [List.take_add_one, hf]; rfl
      have hft : total (l0.take i) + f.length ≤ total l0 := by
        have h1 : total (l0.take (i + 1)) = total (l0.take i) + f.length := by rw [htk]; simp [total]
        have h2 : total (l0.take (i + 1)) + total (l0.drop (i + 1)) = total l0 := by
          unfold total; rw [← List.sum_append, ← List.map_append, List.take_append_drop]
        omega
      have HTK := Lib.hid htk
      have HC := Lib.hid hc
      have HF := Lib.hid hf
      have HCELL := Lib.hid hcell
      have HFR := Aside0.mk hfr
      have HW := Aside0.mk hcw
      have hl1 : ((l0.take i).map List.length).sum = total (l0.take i) := rfl
      clear htk hc hf hcell hfr hcw hl1
      go_wp2
      obtain ⟨wo, rfl⟩ : ∃ wo : World, wo = wr := ⟨_, rfl⟩
      go_loopw [7, 21] (fun v7 v21 wr => ∃ j : Nat, j ≤ f.length ∧ v21 = .int .i64 j ∧ Aside0 (Kd.R (Kd.int .i64) 3 wr w.heap.size (fun k => k ≠ w.heap.size) v7 (numRow (knAll [] (l0.take i)) (f.take j))) ∧
          Aside0 (Kd.S (Kd.slice 3 (Kd.int .i64)) 50 wr w.heap.size (fun k => k ≠ w.heap.size ∧ some k ≠ v7.ownBlock) u4 (numAll [] (l0.take i))) ∧
          Aside0 (∃ D : DataW Unit, wr.ownsMap Try.prog 9 (plainElem Try.prog 3) w.heap.size (total (l0.take i) + j) D ∧ Knows D (knRow (knAll [] (l0.take i)) (f.take j))) ∧ Aside0 (Below w.heap.size w wr))
        (fun _ v21 _ => f.length - (intOf v21).toNat)
      case atStart =>
        exact ⟨0, Nat.zero_le _, rfl, ⟨Kd.R_nil _ _ _ _ _⟩, ⟨Kd.S_mono HS.out (fun k hk => ⟨hk, by simp [Value.ownBlock]⟩)⟩, HM, HB⟩
      case round =>
        obtain ⟨j, hj, rfl, HR, HS2, HM2, HB2⟩ := hrel
        by_cases hjt : j < f.length
        · obtain ⟨s, hs⟩ : ∃ s, f[j]? = some s := ⟨_, List.getElem?_eq_getElem hjt⟩
          have hss : s.size ≤ 4000000000 := hsz f (List.mem_of_getElem? HF.out) s (List.mem_of_getElem? hs)
          obtain ⟨adi, rfl, hci⟩ := HFR.out.2.2 (by omega)
          obtain ⟨ci2, _, hck2, hcell2⟩ := hci j s hs
          have hck3 : ci2 = [Value.string s] := hck2
          subst hck3
          have hsw : w.cell? (adi.add j) = some (.string s) := by
            have := hcell2 0 _ rfl
            simpa [show (Kd.string).sz = 1 from rfl] using this
          have hsr : wr.cell? (adi.add j) = some (.string s) := (HB2.out.cell (World.block_lt_of_cell? w _ hsw)).trans hsw
          have hcr2 : wr.cell? (ad.add i) = some (.slice (some adi) f.length ci) := (HB2.out.cell (World.block_lt_of_cell? w _ HW.out)).trans HW.out
          have htj : f.take (j + 1) = f.take j ++ [s] := by rw [List.take_add_one, hs]; rfl
          have HTJ := Lib.hid htj
          have HSS := Lib.hid hs
          obtain ⟨D, hown, hkn⟩ := HM2.out
          have HKN := Aside0.mk hkn
          have hkey := WideMaps.keyOf_string_mk (P := Try.prog) Try.underlying9 (s := s) (by unfold maxLen; omega)
          have hnew : w.heap.size < wr.heap.size := hown.lt
          by_cases hm : s.data.toList ∈ knRow (knAll [] (l0.take i)) (f.take j)
          · have hhas : Maps.has D (.string s.data.toList) = true := by rw [(hkn.2.2 _).1]; exact decide_eq_true hm
            have HAT := Lib.hid ((hkn.2.2 _).2 hm)
            have HMEM := Lib.hid hm
            clear htj hs hsw hci hcell2 hck2 hkn hm
            have hne : some w.heap.size ≠ u7.ownBlock := fun e => HR.out.1 _ e.symm rfl
            have hrl : (numRow (knAll [] (l0.take i)) (f.take j)).length ≤ 4000000000 := by rw [numRow_length, List.length_take]; omega
            go_wp2_with (first | (at_lookup; refine wpList_lookup_own_ok_int _ rfl _ _ 119 rfl 9 3 .i64 num_keyed Try.underlying119 Try.underlying3 (num_zero _) w.heap.size _ D rfl hown _ _ rfl hkey ?_; intro c hat hwc; rw [HAT.out] at hat; injection hat with hat; injection hat with _ hat; have HCC := Lib.hid hat; clear hat hwc) | (at_builtin; refine Kd.R_append (Kd.int .i64) (w0 := w) w.heap.size rfl (.tmp 38) (.tmp 40) 50 3 (.int .i64 0) 8 rfl Try.underlying50 num_info3 rfl (by decide) (by omega) u7 (numRow (knAll [] (l0.take i)) (f.take j)) c [.int .i64 c] (fun k => k ≠ w.heap.size) (fun _ => False) rfl rfl rfl (fun _ hk => hk.elim) (fun k hk => by omega) HR.out HB2.out HB2.out.size (by omega) ?_; intro v1 w1 ho hb hg hat; have HO := Aside0.mk ho; have HB3 := Aside0.mk hb; have HS3 := Aside0.mk (Kd.S_after HS2.out hg hat); have HM3 := Aside0.mk (hown.kept hg hne); clear ho hb hg hat))
            go_roundw
            case rel =>
              refine ⟨j + 1, by omega, by go_num, ⟨?_⟩, HS3, ⟨D, ?_, ?_⟩, HB3⟩
              · rw [HTJ.out, numRow_snoc, numOf, HCC.out]; exact HO.out
              · exact HM3.out.mono (by omega)
              · rw [HTJ.out, knRow_snoc, numStep, if_pos HMEM.out]; exact HKN.out
            case measure => simp [intOf]; omega
          · have hhas : Maps.has D (.string s.data.toList) = false := by rw [(hkn.2.2 _).1]; exact decide_eq_false hm
            have hsize := hkn.2.1
            have hput := Aside0.mk (knows_put hkn _ hm)
            have HMEM := Lib.hid hm
            have hknl : (knRow (knAll [] (l0.take i)) (f.take j)).length ≤ total (l0.take i) + j := by
              rw [← hsize]; exact hown.size_le
            have hszb : Maps.size D ≤ 4000000000 := by omega
            have HSZ := Lib.hid hsize
            have hwf : (Lit.int .i64 (Maps.size D : Int)).wf = true := WalkArith.wf_i64 (by omega)
            clear htj hs hsw hci hcell2 hck2 hkn hm hsize
            have hne : some w.heap.size ≠ u7.ownBlock := fun e => HR.out.1 _ e.symm rfl
            have hrl : (numRow (knAll [] (l0.take i)) (f.take j)).length ≤ 4000000000 := by rw [numRow_length, List.length_take]; omega
            go_wp2_with (first | (at_lookup; refine wpList_lookup_own_ok_int _ rfl _ _ 119 rfl 9 3 .i64 num_keyed Try.underlying119 Try.underlying3 (num_zero _) w.heap.size _ D rfl hown _ _ rfl hkey ?_; intro c hat hwc; clear hat hwc) | (at_len; refine wpList_len_own _ rfl _ 119 rfl 9 3 Try.underlying119 (plainElem Try.prog 3) w.heap.size _ D rfl hown ?_) | (at_mapUpdate; refine wpList_mapUpdate_own _ rfl _ _ _ 119 rfl 9 3 num_keyed Try.underlying119 (plainElem Try.prog 3) w.heap.size _ D rfl hown (by unfold maxLen; omega) _ _ _ rfl rfl hkey _ [] (plainElem_int Try.underlying3 hwf) ?_; intro w5 hown5 hgrow5; have HM5 := Aside0.mk hown5; have HR5 := Aside0.mk (Kd.R_grown HR.out hgrow5 (fun k hk e => hk (Option.some.inj e))); have HS5 := Aside0.mk (Kd.S_grown HS2.out hgrow5 (fun k hk e => hk.1 (Option.some.inj e))); have HB5 := Aside0.mk (HB2.out.grown hgrow5 HB2.out.size (fun k e => by cases e; exact Nat.le_refl _)); have hnew5 := hown5.lt; clear hown5 hgrow5) | (at_builtin; refine Kd.R_append (Kd.int .i64) (w0 := w) w.heap.size rfl (.tmp 38) (.tmp 40) 50 3 (.int .i64 0) 8 rfl Try.underlying50 num_info3 rfl (by decide) (by omega) u7 (numRow (knAll [] (l0.take i)) (f.take j)) (Maps.size D : Int) [.int .i64 (Maps.size D : Int)] (fun k => k ≠ w.heap.size) (fun _ => False) rfl rfl rfl (fun _ hk => hk.elim) (fun k hk => by omega) HR5.out HB5.out HB5.out.size (by omega) ?_; intro v1 w1 ho hb hg hat; have HO := Aside0.mk ho; have HB3 := Aside0.mk hb; have HS3 := Aside0.mk (Kd.S_after HS5.out hg hat); have HM3 := Aside0.mk (HM5.out.kept hg hne); clear ho hb hg hat))
            go_roundw
            case rel =>
              refine ⟨j + 1, by omega, by go_num, ⟨?_⟩, HS3, ⟨_, HM3.out, ?_⟩, HB3⟩
              · rw [HTJ.out, numRow_snoc, numOf, List.idxOf_eq_length HMEM.out, ← HSZ.out]; exact HO.out
              · rw [HTJ.out, knRow_snoc, numStep, if_neg HMEM.out, HSZ.out]; exact hput.out
            case measure => simp [intOf]; omega
        · have hjf : j = f.length := by omega
          subst hjf
          rw [List.take_length] at HR HM2
          obtain ⟨Ao, co, eo⟩ := Kd.R_slice HR.out
          subst eo
          obtain ⟨D, hown, hkn⟩ := HM2.out
          have HKN := Aside0.mk hkn
          have hne : some w.heap.size ≠ u4.ownBlock := fun e => ((Kd.S_R HS2.out).1 _ e.symm).1 rfl
          have hol : (numAll [] (l0.take i)).length ≤ 4000000000 := by rw [numAll_length, List.length_take]; omega
          have HP := Aside0.mk (show (Kd.slice 3 (Kd.int .i64)).M wr w.heap.size (fun k => some k = (Value.slice Ao (numRow (knAll [] (l0.take i)) f).length co).ownBlock) (numRow (knAll [] (l0.take i)) f) [.slice Ao (numRow (knAll [] (l0.take i)) f).length co] from ⟨_, rfl, fun k hk => hk.symm, HR.out.2⟩)
          have HK := Aside0.mk (show ∀ k, some k = (Value.slice Ao (numRow (knAll [] (l0.take i)) f).length co).ownBlock → k ≠ w.heap.size ∧ some k ≠ u4.ownBlock from fun k hk => ⟨HR.out.1 k hk.symm, fun e => ((Kd.S_R HS2.out).1 k e.symm).2 hk⟩)
          have HO5 := Aside0.mk (Kd.S_mono HS2.out (ok' := fun k => k ≠ w.heap.size ∧ ¬ (some k = (Value.slice Ao (numRow (knAll [] (l0.take i)) f).length co).ownBlock)) (fun k hk => ⟨hk.1, fun e => hk.2 e⟩))
          have hnew : w.heap.size < wr.heap.size := hown.lt
          clear hkn
          go_wp2_with (at_builtin; refine Kd.S_append (Kd.slice 3 (Kd.int .i64)) (w0 := w) w.heap.size rfl (.tmp 43) (.tmp 45) 43 50 (.slice none 0 0) 24 rfl Try.underlying43 num_info50 rfl (by decide) (by omega) u4 (numAll [] (l0.take i)) (numRow (knAll [] (l0.take i)) f) [.slice Ao (numRow (knAll [] (l0.take i)) f).length co] (fun k => k ≠ w.heap.size) (fun k => some k = (Value.slice Ao (numRow (knAll [] (l0.take i)) f).length co).ownBlock) rfl rfl HP.out HK.out (fun k hk => by omega) HO5.out HB2.out HB2.out.size (by omega) ?_; intro v1 w1 ho hb hg hat; have HO := Aside0.mk ho; have HB3 := Aside0.mk hb; have HM3 := Aside0.mk (hown.kept hg hne); clear ho hb hg hat)
          go_roundw
          case rel =>
            refine ⟨i + 1, by omega, by go_num, ⟨?_⟩, ⟨D, ?_, ?_⟩, HB3⟩
            · rw [HTK.out, numAll_snoc]; exact HO.out
            · rw [HTK.out]; simpa [total] using HM3.out
            · rw [HTK.out, knAll_snoc]; exact HKN.out
          case measure => simp [intOf]; omega
    · have hil : i = l0.length := by omega
      subst hil
      rw [List.take_length] at HS HM
      go_wp2
      go_ret
      exact ⟨_, rfl, Kd.S_mono HS.out (fun _ _ => trivial), HB.out⟩
#print axioms number_calls
theorem ext_number (A0 : Option Addr) (c0 : Nat) (l0 : List (List ByteArray)) (r : List (List Int)) (w : World) (hr0 : Kd.C (Kd.slice 9 Kd.string) w A0 l0.length l0) (hc0 : l0.length ≤ c0)
    (h : (if (∀ f ∈ l0, ∀ s ∈ f, s.size ≤ 4000000000) ∧ total l0 ≤ 4000000000 ∧ l0.length ≤ 4000000000 then some (numberB l0) else none) = some r) :
    Calls Try.prog 38 #[.slice A0 l0.length c0] w fun e w' => ∃ v0_ : Value, e = .returned (v0_) ∧ Kd.S (Kd.slice 3 (Kd.int .i64)) 50 w' w.heap.size (fun _ => True) v0_ r ∧ Below w.heap.size w w' := by
  split at h
  · rename_i hs
    obtain rfl := Option.some.inj h
    exact number_calls A0 c0 l0 w hr0 hc0 hs.1 hs.2.1 hs.2.2
  · cases h
end Go.Proofs.Ytfiamddinkokbaa
end

section
set_option linter.unusedVariables false
set_option linter.unusedSimpArgs false
namespace Go.Proofs.Ytfiamddinkokbaa.F
open Go.RowKit Go.Proofs.YtfiamddinkokbaaW.PrintWords Go.Proofs.YtfiamddinkokbaaW.PrintLast Go.Proofs.YtfiamddinkokbaaW.PrintMore
attribute [local go_sem] max2_int min2_int max_two min_two max_three min_three max_four min_four
set_option linter.unusedVariables false
set_option linter.unusedSimpArgs false
def errW : Option Int → Value
  | none => .nilIface
  | some c => .iface 0 (.int .i64 c)
theorem errW_none : errW none = .nilIface := rfl
theorem errW_some (c : Int) : errW (some c) = .iface 0 (.int .i64 c) := rfl
theorem info9 : (Try.prog.info? 9).map (fun i => (i.zero, i.size, i.bytes)) = some (some (.string ⟨#[]⟩), 1, 16) := by kernel_rfl
def rd_L1 (xs : List (List ByteArray)) (i : Int) : (List ByteArray) := xs.getD i.toNat ([] : List ByteArray)
theorem at_L1 {w : World} {A : Option Addr} {n : Nat} {xs : List (List ByteArray)} (h : Kd.C (Kd.slice 9 Kd.string) w A n xs) (i : Int) (h0 : 0 ≤ i) (h1 : i < n) : ∃ ad A0 c0, A = some ad ∧ w.cell? (ad.add i.toNat) = some (.slice A0 (rd_L1 xs i).length c0) ∧ (rd_L1 xs i).length ≤ c0 ∧ Kd.string.C w A0 (rd_L1 xs i).length (rd_L1 xs i) := by
  obtain ⟨ad, c, e, _, hK, hc0⟩ := Kd.C_get h ([] : List ByteArray) i h0 h1
  have hc : ∀ j u, c[j]? = some u → w.cell? (ad.add (i.toNat * 1 + j)) = some u := hc0
  obtain ⟨A0, c0, rfl, l0, g0⟩ := hK
  exact ⟨ad, A0, c0, e, by have hq := hc 0 _ rfl; rwa [Nat.mul_one, Nat.add_zero] at hq, l0, g0⟩
end Go.Proofs.Ytfiamddinkokbaa.F
end

section
set_option linter.unusedVariables false
set_option linter.unusedSimpArgs false
namespace Go.Proofs.Ytfiamddinkokbaa.F
open Go.RowKit Go.Proofs.YtfiamddinkokbaaW.PrintWords Go.Proofs.YtfiamddinkokbaaW.PrintLast Go.Proofs.YtfiamddinkokbaaW.PrintMore
attribute [local go_sem] max2_int min2_int max_two min_two max_three min_three max_four min_four
set_option linter.unusedVariables false
set_option linter.unusedSimpArgs false
def lines_Split.f (a0 : ByteArray) : Option (List ByteArray) := if a0.size ≤ 4000000000 then some (splitB a0) else none
theorem lines_Split.calls (a0 : ByteArray) (r : List ByteArray) (w : World) (h : lines_Split.f a0 = some r) :
    Calls Try.prog 29 #[.string a0] w fun e w' => ∃ v0_ : Value, e = .returned (v0_) ∧ Kd.R Kd.string 9 w' w.heap.size (fun _ => True) v0_ r ∧ Below w.heap.size w w' := by
  exact ext_split a0 r w h
end Go.Proofs.Ytfiamddinkokbaa.F
end

section
set_option linter.unusedVariables false
set_option linter.unusedSimpArgs false
namespace Go.Proofs.Ytfiamddinkokbaa.F
open Go.RowKit Go.Proofs.YtfiamddinkokbaaW.PrintWords Go.Proofs.YtfiamddinkokbaaW.PrintLast Go.Proofs.YtfiamddinkokbaaW.PrintMore
attribute [local go_sem] max2_int min2_int max_two min_two max_three min_three max_four min_four
set_option linter.unusedVariables false
set_option linter.unusedSimpArgs false
def strings_Join.f (l0 : List ByteArray) (a1 : ByteArray) : Option ByteArray := if l0.length ≤ 140737488355328 ∧ (joinB l0 a1).size ≤ 140737488355328 then some (joinB l0 a1) else none
theorem strings_Join.calls (A0 : Option Addr) (c0 : Nat) (l0 : List ByteArray) (a1 : ByteArray) (r : ByteArray) (w : World) (hr0 : Kd.C Kd.string w A0 l0.length l0) (hc0 : l0.length ≤ c0) (h : strings_Join.f l0 a1 = some r) :
    Calls Try.prog 81 #[.slice A0 l0.length c0, .string a1] w fun e w' => e = .returned (.string r) ∧ Below w.heap.size w w' := by
  exact ext_join A0 c0 l0 a1 r w hr0 hc0 h
end Go.Proofs.Ytfiamddinkokbaa.F
end

section
set_option linter.unusedVariables false
set_option linter.unusedSimpArgs false
namespace Go.Proofs.Ytfiamddinkokbaa.F
open Go.RowKit Go.Proofs.YtfiamddinkokbaaW.PrintWords Go.Proofs.YtfiamddinkokbaaW.PrintLast Go.Proofs.YtfiamddinkokbaaW.PrintMore
attribute [local go_sem] max2_int min2_int max_two min_two max_three min_three max_four min_four
set_option linter.unusedVariables false
set_option linter.unusedSimpArgs false
def lines_Join.f (l0 : List ByteArray) : Option (ByteArray) := (strings_Join.f l0 (⟨#[]⟩ : ByteArray)).bind fun t280 => (some t280)
set_option maxHeartbeats 8000000 in
set_option maxRecDepth 100000 in
theorem lines_Join.calls (A0 : Option Addr) (c0 : Nat) (l0 : List ByteArray) (r : ByteArray) (w : World) (hr0 : Kd.C Kd.string w A0 l0.length l0) (hc0 : l0.length ≤ c0) (h : lines_Join.f l0 = some r) :
    Calls Try.prog 33 #[.slice A0 l0.length c0] w fun e w' => e = .returned (.string r) ∧ Below w.heap.size w w' := by
  have HR0 := Aside0.mk hr0
  have HC0 := Aside0.mk hc0
  clear hr0 hc0
  have HB := Aside0.mk (Below.refl w.heap.size w)
  have H : ((strings_Join.f l0 (⟨#[]⟩ : ByteArray)).bind fun t280 => (some t280)) = some r := h
  clear h
  replace H := Option.bind_eq_some_iff.mp H
  obtain ⟨t280, A20, H⟩ := H
  replace H : (some t280) = some r := H
  have A2 := Aside0.mk A20
  clear A20
  obtain rfl := Option.some.inj H
  go_enter Try.func33, Try.ntmps33
  go_wp2_with (first | ((with_reducible refine gate_callee (f := 81) rfl ?_); refine goesL_ (some 4) rfl rfl Try.func81 (by kernel_rfl) rfl #[.slice A0 l0.length c0, .string (⟨#[]⟩ : ByteArray)] rfl (by (try simp only [List.map_toArray, List.map_cons, List.map_nil]); first | done | rfl | (simp only [List.length_drop, List.length_take]; rfl)) ?_; (with_reducible refine (strings_Join.calls _ _ l0 (⟨#[]⟩ : ByteArray) t280 _ ?side1 ?side2 A2.out).mono ?_); (case side1 => repeat (first | exact HR0.out | (with_reducible refine Kd.C_alloc ?_ _) | (with_reducible refine Kd.C_drewN ?_ _) | (with_reducible refine Kd.C_drew ?_))); (case side2 => exact HC0.out); rintro e w3 ⟨rfl, hb⟩; refine ⟨_, rfl, ?_⟩; have n0_ := Aside0.mk (below_step (by repeat (first | (with_reducible first | exact HB.out | apply below_alloc | apply pw_below_drewN | apply below_drew1) | exact HB.out)) hb); clear HB; have HB := n0_; clear n0_; (try clear hb); (try clear hb2); (try clear hk); (try clear hi)))
  go_ret
  exact ⟨by first | rfl | (simp [errW_none, errW_some] <;> rfl) | (simp [*, errW_none, errW_some] <;> rfl), by repeat (first | (with_reducible first | exact HB.out | apply below_alloc | apply pw_below_drewN | apply below_drew1) | exact HB.out)⟩
end Go.Proofs.Ytfiamddinkokbaa.F
end

section
set_option linter.unusedVariables false
set_option linter.unusedSimpArgs false
namespace Go.Proofs.Ytfiamddinkokbaa.F
open Go.RowKit Go.Proofs.YtfiamddinkokbaaW.PrintWords Go.Proofs.YtfiamddinkokbaaW.PrintLast Go.Proofs.YtfiamddinkokbaaW.PrintMore
attribute [local go_sem] max2_int min2_int max_two min_two max_three min_three max_four min_four
set_option linter.unusedVariables false
set_option linter.unusedSimpArgs false
def lines_Run.f (a0 : ByteArray) : Option Int := if a0.size ≤ 4000000000 then some ((runL a0.data.toList : Nat) : Int) else none
theorem lines_Run.calls (a0 : ByteArray) (r : Int) (w : World) (h : lines_Run.f a0 = some r) :
    Calls Try.prog 43 #[.string a0] w fun e w' => e = .returned (.int .i64 r) ∧ Below w.heap.size w w' := by
  exact ext_run a0 r w h
end Go.Proofs.Ytfiamddinkokbaa.F
end

section
set_option linter.unusedVariables false
set_option linter.unusedSimpArgs false
namespace Go.Proofs.Ytfiamddinkokbaa.F
open Go.RowKit Go.Proofs.YtfiamddinkokbaaW.PrintWords Go.Proofs.YtfiamddinkokbaaW.PrintLast Go.Proofs.YtfiamddinkokbaaW.PrintMore
attribute [local go_sem] max2_int min2_int max_two min_two max_three min_three max_four min_four
set_option linter.unusedVariables false
set_option linter.unusedSimpArgs false
def lines_Number.f (l0 : List (List ByteArray)) : Option (List (List Int)) := if (∀ f ∈ l0, ∀ s ∈ f, s.size ≤ 4000000000) ∧ total l0 ≤ 4000000000 ∧ l0.length ≤ 4000000000 then some (numberB l0) else none
theorem lines_Number.calls (A0 : Option Addr) (c0 : Nat) (l0 : List (List ByteArray)) (r : List (List Int)) (w : World) (hr0 : Kd.C (Kd.slice 9 Kd.string) w A0 l0.length l0) (hc0 : l0.length ≤ c0) (h : lines_Number.f l0 = some r) :
    Calls Try.prog 38 #[.slice A0 l0.length c0] w fun e w' => ∃ v0_ : Value, e = .returned (v0_) ∧ Kd.S (Kd.slice 3 (Kd.int .i64)) 50 w' w.heap.size (fun _ => True) v0_ r ∧ Below w.heap.size w w' := by
  exact ext_number A0 c0 l0 r w hr0 hc0 h
end Go.Proofs.Ytfiamddinkokbaa.F
end

section
set_option linter.unusedVariables false
set_option linter.unusedSimpArgs false
namespace Go.Proofs.Ytfiamddinkokbaa.F
open Go.RowKit Go.Proofs.YtfiamddinkokbaaW.PrintWords Go.Proofs.YtfiamddinkokbaaW.PrintLast Go.Proofs.YtfiamddinkokbaaW.PrintMore
attribute [local go_sem] max2_int min2_int max_two min_two max_three min_three max_four min_four
set_option linter.unusedVariables false
set_option linter.unusedSimpArgs false
def strings_Index.f (a0 a1 : ByteArray) : Option Int := if a1.size = 1 then some (Lib.indexByte a0.data.toList (a1.data.toList.headD 0)) else none
theorem strings_Index.calls (a0 : ByteArray) (a1 : ByteArray) (r : Int) (w : World) (h : strings_Index.f a0 a1 = some r) :
    Calls Try.prog 82 #[.string a0, .string a1] w fun e w' => e = .returned (.int .i64 r) ∧ Drawn0 w w' := by
  exact ext_index a0 a1 r w h
end Go.Proofs.Ytfiamddinkokbaa.F
end

section
set_option linter.unusedVariables false
set_option linter.unusedSimpArgs false
namespace Go.Proofs.Ytfiamddinkokbaa.F
open Go.RowKit Go.Proofs.YtfiamddinkokbaaW.PrintWords Go.Proofs.YtfiamddinkokbaaW.PrintLast Go.Proofs.YtfiamddinkokbaaW.PrintMore
attribute [local go_sem] max2_int min2_int max_two min_two max_three min_three max_four min_four
set_option linter.unusedVariables false
set_option linter.unusedSimpArgs false
def lines_Whole.l0 : Nat → List ByteArray → List ByteArray → Int → Int → Option (Bool)
  | 0, _, _, _, _ => none
  | k + 1, x0, x6, x7, x8 => if x8 < x7 then (if 0 ≤ x8 then (if x8 < (x6.length : Int) then ((strings_Index.f (rdOf ByteArray.empty x6 x8) (⟨#[10]⟩ : ByteArray)).bind fun t282 => (if (rdOf ByteArray.empty x6 x8).toList = ([] : List UInt8) then (some false) else (if t282 ≥ 0 then (if t282 = (wrap64 (((rdOf ByteArray.empty x6 x8).size : Int) - 1)) then (if t282 < 0 then (if x8 < (wrap64 ((x0.length : Int) - 1)) then (some false) else (lines_Whole.l0 k x0 x6 x7 (wrap64 (x8 + 1)))) else (lines_Whole.l0 k x0 x6 x7 (wrap64 (x8 + 1)))) else (some false)) else (if t282 < 0 then (if x8 < (wrap64 ((x0.length : Int) - 1)) then (some false) else (lines_Whole.l0 k x0 x6 x7 (wrap64 (x8 + 1)))) else (lines_Whole.l0 k x0 x6 x7 (wrap64 (x8 + 1))))))) else (none)) else (none)) else (some true)
def lines_Whole.f (k : Nat) (l0 : List ByteArray) : Option (Bool) := lines_Whole.l0 k l0 l0 (l0.length : Int) 0
theorem lines_Whole.mono_l : ∀ k, (∀ y0 y1 y2 y3, LeO (lines_Whole.l0 k y0 y1 y2 y3) (lines_Whole.l0 (k + 1) y0 y1 y2 y3))
  | 0 => fun _ _ _ _ r h => by simp [lines_Whole.l0] at h
  | k + 1 => by
    have ih0 := lines_Whole.mono_l k
    · intro y0 y1 y2 y3
      unfold lines_Whole.l0
      repeat' first
      | (with_reducible exact ih0 _ _ _ _)
      | (with_reducible exact LeO.refl _)
      | (with_reducible exact LeO.none _)
      | (with_reducible refine LeO.ite ?_ ?_)
      | (with_reducible refine LeO.bind ?_ (fun _ => ?_))
      | exact ih0 _ _ _ _
      | exact LeO.none _
      | refine LeO.ite ?_ ?_
      | refine LeO.bind ?_ (fun _ => ?_)
theorem lines_Whole.mono : ∀ a0 k, LeO (lines_Whole.f k a0) (lines_Whole.f (k + 1) a0) := by
  intro a0 k
  have ih0 := lines_Whole.mono_l k
  unfold lines_Whole.f
  repeat' first
      | (with_reducible exact ih0 _ _ _ _)
      | (with_reducible exact LeO.refl _)
      | (with_reducible exact LeO.none _)
      | (with_reducible refine LeO.ite ?_ ?_)
      | (with_reducible refine LeO.bind ?_ (fun _ => ?_))
      | exact ih0 _ _ _ _
      | exact LeO.none _
      | refine LeO.ite ?_ ?_
      | refine LeO.bind ?_ (fun _ => ?_)
set_option maxHeartbeats 8000000 in
set_option maxRecDepth 100000 in
theorem lines_Whole.calls (k : Nat) (A0 : Option Addr) (c0 : Nat) (l0 : List ByteArray) (r : Bool) (w : World) (hr0 : Kd.C Kd.string w A0 l0.length l0) (hc0 : l0.length ≤ c0) (h : lines_Whole.f k l0 = some r) :
    Calls Try.prog 34 #[.slice A0 l0.length c0] w fun e w' => e = .returned (.bool r) ∧ Drawn0 w w' := by
  have HR0 := Aside0.mk hr0
  have HC0 := Aside0.mk hc0
  clear hr0 hc0
  have H : (lines_Whole.l0 k l0 l0 (l0.length : Int) 0) = some r := h
  clear h
  have H' := Aside0.mk H
  clear H
  go_enter Try.func34, Try.ntmps34
  go_wp2
  go_loopg [8] k (fun kq v8 w' => ∃ (x8_1 : Int), v8 = .int .i64 x8_1 ∧ Aside0 (lines_Whole.l0 kq l0 l0 (l0.length : Int) x8_1 = some r) ∧ Aside0 (kq ≤ k) ∧ Drawn0 w w')
  case atStart => exact ⟨(0), (by first | rfl | (simp; done) | (simp [*]; done)), H', ⟨Nat.le_refl _⟩, by repeat (first | exact Drawn0.refl _ | apply Drawn0.step)⟩
  case round =>
    clear H'
    obtain ⟨x8_1, rfl, HA, HK1, ⟨m1, rfl⟩⟩ := hrel
    cases gk with
    | zero => exact absurd HA.out (by simp [lines_Whole.l0])
    | succ k1 =>
      have H := HA.out
      clear HA
      simp only [lines_Whole.l0] at H
      by_cases c2 : x8_1 < (l0.length : Int)
      · rw [if_pos c2] at H
        have c2b0 : decide (x8_1 < (l0.length : Int)) = true := decide_eq_true c2
        clear c2
        by_cases c3 : 0 ≤ x8_1
        · rw [if_pos c3] at H
          have c3b0 : decide (0 ≤ x8_1) = true := decide_eq_true c3
          clear c3
          by_cases c4 : x8_1 < (l0.length : Int)
          · rw [if_pos c4] at H
            have c4b0 : decide (x8_1 < (l0.length : Int)) = true := decide_eq_true c4
            clear c4
            replace H := Option.bind_eq_some_iff.mp H
            obtain ⟨t282, A50, H⟩ := H
            replace H : (if (rdOf ByteArray.empty l0 x8_1).toList = ([] : List UInt8) then (some false) else (if t282 ≥ 0 then (if t282 = (wrap64 (((rdOf ByteArray.empty l0 x8_1).size : Int) - 1)) then (if t282 < 0 then (if x8_1 < (wrap64 ((l0.length : Int) - 1)) then (some false) else (lines_Whole.l0 k1 l0 l0 (l0.length : Int) (wrap64 (x8_1 + 1)))) else (lines_Whole.l0 k1 l0 l0 (l0.length : Int) (wrap64 (x8_1 + 1)))) else (some false)) else (if t282 < 0 then (if x8_1 < (wrap64 ((l0.length : Int) - 1)) then (some false) else (lines_Whole.l0 k1 l0 l0 (l0.length : Int) (wrap64 (x8_1 + 1)))) else (lines_Whole.l0 k1 l0 l0 (l0.length : Int) (wrap64 (x8_1 + 1)))))) = some r := H
            have A5 := Aside0.mk A50
            clear A50
            by_cases c6 : (rdOf ByteArray.empty l0 x8_1).toList = ([] : List UInt8)
            · rw [if_pos c6] at H
              have c6b0 : ((rdOf ByteArray.empty l0 x8_1).toList == ([] : List UInt8)) = true := beq_iff_eq.mpr c6
              have c6b1 : ((rdOf ByteArray.empty l0 x8_1).toList != ([] : List UInt8)) = false := bne_eq_false_iff_eq.mpr c6
              clear c6
              obtain rfl := Option.some.inj H
              have p281 : 0 ≤ (x8_1 : Int) := of_decide_eq_true (by first | (with_reducible assumption) | assumption)
              have q281 : x8_1 < (l0.length : Int) := of_decide_eq_true (by first | (with_reducible assumption) | assumption)
              obtain ⟨ad281, e281, hx281_0⟩ := Kd.at_string HR0.out x8_1 p281 q281
              cases e281
              replace p281 := eq_true p281
              replace q281 := eq_true q281
              go_wp2_with (first | ((with_reducible refine gate_callee (f := 82) rfl ?_); refine goesL_ (some 14) rfl rfl Try.func82 (by kernel_rfl) rfl #[.string (rdOf ByteArray.empty l0 x8_1), .string (⟨#[10]⟩ : ByteArray)] rfl (by (try simp only [List.map_toArray, List.map_cons, List.map_nil]); first | done | rfl | (simp only [List.length_drop, List.length_take]; rfl)) ?_; (with_reducible refine (strings_Index.calls (rdOf ByteArray.empty l0 x8_1) (⟨#[10]⟩ : ByteArray) t282 _ A5.out).mono ?_); rintro e w' ⟨rfl, ⟨nd, rfl⟩⟩; refine ⟨_, rfl, ?_⟩))
              go_ret
              exact ⟨by first | rfl | (simp; done) | (simp [*]; done), by repeat (first | exact Drawn0.refl _ | apply Drawn0.step)⟩
            · rw [if_neg c6] at H
              have c6b0 : ((rdOf ByteArray.empty l0 x8_1).toList == ([] : List UInt8)) = false := beq_eq_false_iff_ne.mpr c6
              have c6b1 : ((rdOf ByteArray.empty l0 x8_1).toList != ([] : List UInt8)) = true := bne_iff_ne.mpr c6
              by_cases c7 : t282 ≥ 0
              · rw [if_pos c7] at H
                have c7b0 : decide (0 ≤ t282) = true := decide_eq_true c7
                clear c7
                by_cases c8 : t282 = (wrap64 (((rdOf ByteArray.empty l0 x8_1).size : Int) - 1))
                · rw [if_pos c8] at H
                  have c8b0 : (t282 == (wrap64 (((rdOf ByteArray.empty l0 x8_1).size : Int) - 1))) = true := beq_iff_eq.mpr c8
                  have c8b1 : (t282 != (wrap64 (((rdOf ByteArray.empty l0 x8_1).size : Int) - 1))) = false := bne_eq_false_iff_eq.mpr c8
                  clear c8
                  by_cases c9 : t282 < 0
                  · rw [if_pos c9] at H
                    have c9b0 : decide (t282 < 0) = true := decide_eq_true c9
                    clear c9
                    by_cases c10 : x8_1 < (wrap64 ((l0.length : Int) - 1))
                    · rw [if_pos c10] at H
                      have c10b0 : decide (x8_1 < (wrap64 ((l0.length : Int) - 1))) = true := decide_eq_true c10
                      clear c10
                      obtain rfl := Option.some.inj H
                      have p281 : 0 ≤ (x8_1 : Int) := of_decide_eq_true (by first | (with_reducible assumption) | assumption)
                      have q281 : x8_1 < (l0.length : Int) := of_decide_eq_true (by first | (with_reducible assumption) | assumption)
                      obtain ⟨ad281, e281, hx281_0⟩ := Kd.at_string HR0.out x8_1 p281 q281
                      cases e281
                      replace p281 := eq_true p281
                      replace q281 := eq_true q281
                      go_wp2_with (first | ((with_reducible refine gate_callee (f := 82) rfl ?_); refine goesL_ (some 14) rfl rfl Try.func82 (by kernel_rfl) rfl #[.string (rdOf ByteArray.empty l0 x8_1), .string (⟨#[10]⟩ : ByteArray)] rfl (by (try simp only [List.map_toArray, List.map_cons, List.map_nil]); first | done | rfl | (simp only [List.length_drop, List.length_take]; rfl)) ?_; (with_reducible refine (strings_Index.calls (rdOf ByteArray.empty l0 x8_1) (⟨#[10]⟩ : ByteArray) t282 _ A5.out).mono ?_); rintro e w' ⟨rfl, ⟨nd, rfl⟩⟩; refine ⟨_, rfl, ?_⟩))
                      go_ret
                      exact ⟨by first | rfl | (simp; done) | (simp [*]; done), by repeat (first | exact Drawn0.refl _ | apply Drawn0.step)⟩
                    · rw [if_neg c10] at H
                      have c10b0 : decide (x8_1 < (wrap64 ((l0.length : Int) - 1))) = false := decide_eq_false c10
                      clear c10
                      have H' := Aside0.mk H
                      clear H
                      have p281 : 0 ≤ (x8_1 : Int) := of_decide_eq_true (by first | (with_reducible assumption) | assumption)
                      have q281 : x8_1 < (l0.length : Int) := of_decide_eq_true (by first | (with_reducible assumption) | assumption)
                      obtain ⟨ad281, e281, hx281_0⟩ := Kd.at_string HR0.out x8_1 p281 q281
                      cases e281
                      replace p281 := eq_true p281
                      replace q281 := eq_true q281
                      go_wp2_with (first | ((with_reducible refine gate_callee (f := 82) rfl ?_); refine goesL_ (some 14) rfl rfl Try.func82 (by kernel_rfl) rfl #[.string (rdOf ByteArray.empty l0 x8_1), .string (⟨#[10]⟩ : ByteArray)] rfl (by (try simp only [List.map_toArray, List.map_cons, List.map_nil]); first | done | rfl | (simp only [List.length_drop, List.length_take]; rfl)) ?_; (with_reducible refine (strings_Index.calls (rdOf ByteArray.empty l0 x8_1) (⟨#[10]⟩ : ByteArray) t282 _ A5.out).mono ?_); rintro e w' ⟨rfl, ⟨nd, rfl⟩⟩; refine ⟨_, rfl, ?_⟩))
                      go_roundg k1
                      case measure => have := HK1.out; omega
                      case rel => exact ⟨(wrap64 (x8_1 + 1)), (by first | rfl | (simp; done) | (simp [*]; done)), H', ⟨by have := HK1.out; omega⟩, by repeat (first | exact Drawn0.refl _ | apply Drawn0.step)⟩
                  · rw [if_neg c9] at H
                    have c9b0 : decide (t282 < 0) = false := decide_eq_false c9
                    clear c9
                    have H' := Aside0.mk H
                    clear H
                    have p281 : 0 ≤ (x8_1 : Int) := of_decide_eq_true (by first | (with_reducible assumption) | assumption)
                    have q281 : x8_1 < (l0.length : Int) := of_decide_eq_true (by first | (with_reducible assumption) | assumption)
                    obtain ⟨ad281, e281, hx281_0⟩ := Kd.at_string HR0.out x8_1 p281 q281
                    cases e281
                    replace p281 := eq_true p281
                    replace q281 := eq_true q281
                    go_wp2_with (first | ((with_reducible refine gate_callee (f := 82) rfl ?_); refine goesL_ (some 14) rfl rfl Try.func82 (by kernel_rfl) rfl #[.string (rdOf ByteArray.empty l0 x8_1), .string (⟨#[10]⟩ : ByteArray)] rfl (by (try simp only [List.map_toArray, List.map_cons, List.map_nil]); first | done | rfl | (simp only [List.length_drop, List.length_take]; rfl)) ?_; (with_reducible refine (strings_Index.calls (rdOf ByteArray.empty l0 x8_1) (⟨#[10]⟩ : ByteArray) t282 _ A5.out).mono ?_); rintro e w' ⟨rfl, ⟨nd, rfl⟩⟩; refine ⟨_, rfl, ?_⟩))
                    go_roundg k1
                    case measure => have := HK1.out; omega
                    case rel => exact ⟨(wrap64 (x8_1 + 1)), (by first | rfl | (simp; done) | (simp [*]; done)), H', ⟨by have := HK1.out; omega⟩, by repeat (first | exact Drawn0.refl _ | apply Drawn0.step)⟩
                · rw [if_neg c8] at H
                  have c8b0 : (t282 == (wrap64 (((rdOf ByteArray.empty l0 x8_1).size : Int) - 1))) = false := beq_eq_false_iff_ne.mpr c8
                  have c8b1 : (t282 != (wrap64 (((rdOf ByteArray.empty l0 x8_1).size : Int) - 1))) = true := bne_iff_ne.mpr c8
                  obtain rfl := Option.some.inj H
                  have p281 : 0 ≤ (x8_1 : Int) := of_decide_eq_true (by first | (with_reducible assumption) | assumption)
                  have q281 : x8_1 < (l0.length : Int) := of_decide_eq_true (by first | (with_reducible assumption) | assumption)
                  obtain ⟨ad281, e281, hx281_0⟩ := Kd.at_string HR0.out x8_1 p281 q281
                  cases e281
                  replace p281 := eq_true p281
                  replace q281 := eq_true q281
                  go_wp2_with (first | ((with_reducible refine gate_callee (f := 82) rfl ?_); refine goesL_ (some 14) rfl rfl Try.func82 (by kernel_rfl) rfl #[.string (rdOf ByteArray.empty l0 x8_1), .string (⟨#[10]⟩ : ByteArray)] rfl (by (try simp only [List.map_toArray, List.map_cons, List.map_nil]); first | done | rfl | (simp only [List.length_drop, List.length_take]; rfl)) ?_; (with_reducible refine (strings_Index.calls (rdOf ByteArray.empty l0 x8_1) (⟨#[10]⟩ : ByteArray) t282 _ A5.out).mono ?_); rintro e w' ⟨rfl, ⟨nd, rfl⟩⟩; refine ⟨_, rfl, ?_⟩))
                  go_ret
                  exact ⟨by first | rfl | (simp; done) | (simp [*]; done), by repeat (first | exact Drawn0.refl _ | apply Drawn0.step)⟩
              · rw [if_neg c7] at H
                have c7b0 : decide (0 ≤ t282) = false := decide_eq_false c7
                clear c7
                by_cases c11 : t282 < 0
                · rw [if_pos c11] at H
                  have c11b0 : decide (t282 < 0) = true := decide_eq_true c11
                  clear c11
                  by_cases c12 : x8_1 < (wrap64 ((l0.length : Int) - 1))
                  · rw [if_pos c12] at H
                    have c12b0 : decide (x8_1 < (wrap64 ((l0.length : Int) - 1))) = true := decide_eq_true c12
                    clear c12
                    obtain rfl := Option.some.inj H
                    have p281 : 0 ≤ (x8_1 : Int) := of_decide_eq_true (by first | (with_reducible assumption) | assumption)
                    have q281 : x8_1 < (l0.length : Int) := of_decide_eq_true (by first | (with_reducible assumption) | assumption)
                    obtain ⟨ad281, e281, hx281_0⟩ := Kd.at_string HR0.out x8_1 p281 q281
                    cases e281
                    replace p281 := eq_true p281
                    replace q281 := eq_true q281
                    go_wp2_with (first | ((with_reducible refine gate_callee (f := 82) rfl ?_); refine goesL_ (some 14) rfl rfl Try.func82 (by kernel_rfl) rfl #[.string (rdOf ByteArray.empty l0 x8_1), .string (⟨#[10]⟩ : ByteArray)] rfl (by (try simp only [List.map_toArray, List.map_cons, List.map_nil]); first | done | rfl | (simp only [List.length_drop, List.length_take]; rfl)) ?_; (with_reducible refine (strings_Index.calls (rdOf ByteArray.empty l0 x8_1) (⟨#[10]⟩ : ByteArray) t282 _ A5.out).mono ?_); rintro e w' ⟨rfl, ⟨nd, rfl⟩⟩; refine ⟨_, rfl, ?_⟩))
                    go_ret
                    exact ⟨by first | rfl | (simp; done) | (simp [*]; done), by repeat (first | exact Drawn0.refl _ | apply Drawn0.step)⟩
                  · rw [if_neg c12] at H
                    have c12b0 : decide (x8_1 < (wrap64 ((l0.length : Int) - 1))) = false := decide_eq_false c12
                    clear c12
                    have H' := Aside0.mk H
                    clear H
                    have p281 : 0 ≤ (x8_1 : Int) := of_decide_eq_true (by first | (with_reducible assumption) | assumption)
                    have q281 : x8_1 < (l0.length : Int) := of_decide_eq_true (by first | (with_reducible assumption) | assumption)
                    obtain ⟨ad281, e281, hx281_0⟩ := Kd.at_string HR0.out x8_1 p281 q281
                    cases e281
                    replace p281 := eq_true p281
                    replace q281 := eq_true q281
                    go_wp2_with (first | ((with_reducible refine gate_callee (f := 82) rfl ?_); refine goesL_ (some 14) rfl rfl Try.func82 (by kernel_rfl) rfl #[.string (rdOf ByteArray.empty l0 x8_1), .string (⟨#[10]⟩ : ByteArray)] rfl (by (try simp only [List.map_toArray, List.map_cons, List.map_nil]); first | done | rfl | (simp only [List.length_drop, List.length_take]; rfl)) ?_; (with_reducible refine (strings_Index.calls (rdOf ByteArray.empty l0 x8_1) (⟨#[10]⟩ : ByteArray) t282 _ A5.out).mono ?_); rintro e w' ⟨rfl, ⟨nd, rfl⟩⟩; refine ⟨_, rfl, ?_⟩))
                    go_roundg k1
                    case measure => have := HK1.out; omega
                    case rel => exact ⟨(wrap64 (x8_1 + 1)), (by first | rfl | (simp; done) | (simp [*]; done)), H', ⟨by have := HK1.out; omega⟩, by repeat (first | exact Drawn0.refl _ | apply Drawn0.step)⟩
                · rw [if_neg c11] at H
                  have c11b0 : decide (t282 < 0) = false := decide_eq_false c11
                  clear c11
                  have H' := Aside0.mk H
                  clear H
                  have p281 : 0 ≤ (x8_1 : Int) := of_decide_eq_true (by first | (with_reducible assumption) | assumption)
                  have q281 : x8_1 < (l0.length : Int) := of_decide_eq_true (by first | (with_reducible assumption) | assumption)
                  obtain ⟨ad281, e281, hx281_0⟩ := Kd.at_string HR0.out x8_1 p281 q281
                  cases e281
                  replace p281 := eq_true p281
                  replace q281 := eq_true q281
                  go_wp2_with (first | ((with_reducible refine gate_callee (f := 82) rfl ?_); refine goesL_ (some 14) rfl rfl Try.func82 (by kernel_rfl) rfl #[.string (rdOf ByteArray.empty l0 x8_1), .string (⟨#[10]⟩ : ByteArray)] rfl (by (try simp only [List.map_toArray, List.map_cons, List.map_nil]); first | done | rfl | (simp only [List.length_drop, List.length_take]; rfl)) ?_; (with_reducible refine (strings_Index.calls (rdOf ByteArray.empty l0 x8_1) (⟨#[10]⟩ : ByteArray) t282 _ A5.out).mono ?_); rintro e w' ⟨rfl, ⟨nd, rfl⟩⟩; refine ⟨_, rfl, ?_⟩))
                  go_roundg k1
                  case measure => have := HK1.out; omega
                  case rel => exact ⟨(wrap64 (x8_1 + 1)), (by first | rfl | (simp; done) | (simp [*]; done)), H', ⟨by have := HK1.out; omega⟩, by repeat (first | exact Drawn0.refl _ | apply Drawn0.step)⟩
          · rw [if_neg c4] at H
            exact absurd H (by simp)
        · rw [if_neg c3] at H
          exact absurd H (by simp)
      · rw [if_neg c2] at H
        have c2b0 : decide (x8_1 < (l0.length : Int)) = false := decide_eq_false c2
        clear c2
        obtain rfl := Option.some.inj H
        go_wp2
        go_ret
        exact ⟨by first | rfl | (simp; done) | (simp [*]; done), by repeat (first | exact Drawn0.refl _ | apply Drawn0.step)⟩
end Go.Proofs.Ytfiamddinkokbaa.F
end

section
set_option linter.unusedVariables false
set_option linter.unusedSimpArgs false
namespace Go.Proofs.Ytfiamddinkokbaa.F
open Go.RowKit Go.Proofs.YtfiamddinkokbaaW.PrintWords Go.Proofs.YtfiamddinkokbaaW.PrintLast Go.Proofs.YtfiamddinkokbaaW.PrintMore
attribute [local go_sem] max2_int min2_int max_two min_two max_three min_three max_four min_four
set_option linter.unusedVariables false
set_option linter.unusedSimpArgs false
mutual
def lines_Longest.l0 : Nat → Int → List (List ByteArray) → Int → Int → Option (Int)
  | 0, _, _, _, _ => none
  | k + 1, x3, x8, x9, x10 => if x10 < x9 then (if 0 ≤ x10 then (if x10 < (x8.length : Int) then (lines_Longest.l1 k x3 x8 x9 x10 (rd_L1 x8 x10) ((rd_L1 x8 x10).length : Int) 0) else (none)) else (none)) else (some x3)
def lines_Longest.l1 : Nat → Int → List (List ByteArray) → Int → Int → List ByteArray → Int → Int → Option (Int)
  | 0, _, _, _, _, _, _, _ => none
  | k + 1, x3, x8, x9, x10, x14, x15, x16 => if x16 < x15 then (if 0 ≤ x16 then (if x16 < (x14.length : Int) then ((lines_Run.f (rdOf ByteArray.empty x14 x16)).bind fun t103 => (lines_Longest.l1 k (mx x3 t103) x8 x9 x10 x14 x15 (wrap64 (x16 + 1)))) else (none)) else (none)) else (lines_Longest.l0 k x3 x8 x9 (wrap64 (x10 + 1)))
end
def lines_Longest.f (k : Nat) (l0 : List (List ByteArray)) : Option (Int) := lines_Longest.l0 k 0 l0 (l0.length : Int) 0
theorem lines_Longest.mono_l : ∀ k, (∀ y0 y1 y2 y3, LeO (lines_Longest.l0 k y0 y1 y2 y3) (lines_Longest.l0 (k + 1) y0 y1 y2 y3)) ∧ (∀ y0 y1 y2 y3 y4 y5 y6, LeO (lines_Longest.l1 k y0 y1 y2 y3 y4 y5 y6) (lines_Longest.l1 (k + 1) y0 y1 y2 y3 y4 y5 y6))
  | 0 => ⟨fun _ _ _ _ r h => by simp [lines_Longest.l0] at h, fun _ _ _ _ _ _ _ r h => by simp [lines_Longest.l1] at h⟩
  | k + 1 => by
    obtain ⟨ih0, ih1⟩ := lines_Longest.mono_l k
    refine ⟨?_, ?_⟩
    · intro y0 y1 y2 y3
      unfold lines_Longest.l0
      repeat' first
      | (with_reducible exact ih0 _ _ _ _)
      | (with_reducible exact ih1 _ _ _ _ _ _ _)
      | (with_reducible exact LeO.refl _)
      | (with_reducible exact LeO.none _)
      | (with_reducible refine LeO.ite ?_ ?_)
      | (with_reducible refine LeO.bind ?_ (fun _ => ?_))
      | exact ih0 _ _ _ _
      | exact ih1 _ _ _ _ _ _ _
      | exact LeO.none _
      | refine LeO.ite ?_ ?_
      | refine LeO.bind ?_ (fun _ => ?_)
    · intro y0 y1 y2 y3 y4 y5 y6
      unfold lines_Longest.l1
      repeat' first
      | (with_reducible exact ih0 _ _ _ _)
      | (with_reducible exact ih1 _ _ _ _ _ _ _)
      | (with_reducible exact LeO.refl _)
      | (with_reducible exact LeO.none _)
      | (with_reducible refine LeO.ite ?_ ?_)
      | (with_reducible refine LeO.bind ?_ (fun _ => ?_))
      | exact ih0 _ _ _ _
      | exact ih1 _ _ _ _ _ _ _
      | exact LeO.none _
      | refine LeO.ite ?_ ?_
      | refine LeO.bind ?_ (fun _ => ?_)
theorem lines_Longest.mono : ∀ a0 k, LeO (lines_Longest.f k a0) (lines_Longest.f (k + 1) a0) := by
  intro a0 k
  obtain ⟨ih0, ih1⟩ := lines_Longest.mono_l k
  unfold lines_Longest.f
  repeat' first
      | (with_reducible exact ih0 _ _ _ _)
      | (with_reducible exact ih1 _ _ _ _ _ _ _)
      | (with_reducible exact LeO.refl _)
      | (with_reducible exact LeO.none _)
      | (with_reducible refine LeO.ite ?_ ?_)
      | (with_reducible refine LeO.bind ?_ (fun _ => ?_))
      | exact ih0 _ _ _ _
      | exact ih1 _ _ _ _ _ _ _
      | exact LeO.none _
      | refine LeO.ite ?_ ?_
      | refine LeO.bind ?_ (fun _ => ?_)
set_option maxHeartbeats 8000000 in
set_option maxRecDepth 100000 in
theorem lines_Longest.calls (k : Nat) (A0 : Option Addr) (c0 : Nat) (l0 : List (List ByteArray)) (r : Int) (w : World) (hr0 : Kd.C (Kd.slice 9 Kd.string) w A0 l0.length l0) (hc0 : l0.length ≤ c0) (h : lines_Longest.f k l0 = some r) :
    Calls Try.prog 40 #[.slice A0 l0.length c0] w fun e w' => e = .returned (.int .i64 r) ∧ Below w.heap.size w w' := by
  have HR0 := Aside0.mk hr0
  have HC0 := Aside0.mk hc0
  clear hr0 hc0
  have HB := Aside0.mk (Below.refl w.heap.size w)
  have H : (lines_Longest.l0 k 0 l0 (l0.length : Int) 0) = some r := h
  clear h
  have H' := Aside0.mk H
  clear H
  go_enter Try.func40, Try.ntmps40
  go_wp2
  go_loopg [3, 10] k (fun kq v3 v10 w' => ∃ (x3_1 : Int) (x10_1 : Int), v3 = .int .i64 x3_1 ∧ v10 = .int .i64 x10_1 ∧ Aside0 (lines_Longest.l0 kq x3_1 l0 (l0.length : Int) x10_1 = some r) ∧ Aside0 (kq ≤ k) ∧ Aside0 (Below w.heap.size w w'))
  case atStart => exact ⟨(0), (0), (by first | rfl | (simp; done) | (simp [*]; done)), (by first | rfl | (simp; done) | (simp [*]; done)), H', ⟨Nat.le_refl _⟩, ⟨by repeat (first | (with_reducible first | exact HB.out | apply below_alloc | apply pw_below_drewN | apply below_drew1) | exact HB.out)⟩⟩
  case round =>
    clear H'
    obtain ⟨x3_1, x10_1, rfl, rfl, HA, HK1, HB⟩ := hrel
    cases gk with
    | zero => exact absurd HA.out (by simp [lines_Longest.l0])
    | succ k1 =>
      have H := HA.out
      clear HA
      simp only [lines_Longest.l0] at H
      by_cases c2 : x10_1 < (l0.length : Int)
      · rw [if_pos c2] at H
        have c2b0 : decide (x10_1 < (l0.length : Int)) = true := decide_eq_true c2
        clear c2
        by_cases c3 : 0 ≤ x10_1
        · rw [if_pos c3] at H
          have c3b0 : decide (0 ≤ x10_1) = true := decide_eq_true c3
          clear c3
          by_cases c4 : x10_1 < (l0.length : Int)
          · rw [if_pos c4] at H
            have c4b0 : decide (x10_1 < (l0.length : Int)) = true := decide_eq_true c4
            clear c4
            have H' := Aside0.mk H
            clear H
            have p101 : 0 ≤ (x10_1 : Int) := of_decide_eq_true (by first | (with_reducible assumption) | assumption)
            have q101 : x10_1 < (l0.length : Int) := of_decide_eq_true (by first | (with_reducible assumption) | assumption)
            obtain ⟨ad101, A101_0, c101_0, e101, hx101_0, hl101_0, hi101_0⟩ := at_L1 HR0.out x10_1 p101 q101
            cases e101
            replace hx101_0 := (HB.out.cell (World.block_lt_of_cell? w _ hx101_0)).trans hx101_0
            have HR101_0 := Aside0.mk hi101_0
            have HC101_0 := Aside0.mk hl101_0
            clear hi101_0 hl101_0
            replace p101 := eq_true p101
            replace q101 := eq_true q101
            go_wp2
            go_loopg [3, 16] k1 (fun kq v3 v16 w' => ∃ (x3_2 : Int) (x16_2 : Int), v3 = .int .i64 x3_2 ∧ v16 = .int .i64 x16_2 ∧ Aside0 (lines_Longest.l1 kq x3_2 l0 (l0.length : Int) x10_1 (rd_L1 l0 x10_1) ((rd_L1 l0 x10_1).length : Int) x16_2 = some r) ∧ Aside0 (kq ≤ k1) ∧ Aside0 (Below w.heap.size w w'))
            case atStart => exact ⟨(x3_1), (0), (by first | rfl | (simp; done) | (simp [*]; done)), (by first | rfl | (simp; done) | (simp [*]; done)), H', ⟨Nat.le_refl _⟩, ⟨by repeat (first | (with_reducible first | exact HB.out | apply below_alloc | apply pw_below_drewN | apply below_drew1) | exact HB.out)⟩⟩
            case round =>
              clear H'
              try clear c1
              try clear p1
              try clear q1
              try clear hx1
              try clear c2
              try clear c2b0
              try clear p2
              try clear c3
              try clear c3b0
              try clear c4
              try clear c4b0
              try clear hx101_0
              try clear p101
              try clear q101
              obtain ⟨x3_2, x16_2, rfl, rfl, HA, HK2, HB⟩ := hrel
              cases gk with
              | zero => exact absurd HA.out (by simp [lines_Longest.l1])
              | succ k2 =>
                have H := HA.out
                clear HA
                simp only [lines_Longest.l1] at H
                by_cases c5 : x16_2 < ((rd_L1 l0 x10_1).length : Int)
                · rw [if_pos c5] at H
                  have c5b0 : decide (x16_2 < ((rd_L1 l0 x10_1).length : Int)) = true := decide_eq_true c5
                  clear c5
                  by_cases c6 : 0 ≤ x16_2
                  · rw [if_pos c6] at H
                    have c6b0 : decide (0 ≤ x16_2) = true := decide_eq_true c6
                    clear c6
                    by_cases c7 : x16_2 < ((rd_L1 l0 x10_1).length : Int)
                    · rw [if_pos c7] at H
                      have c7b0 : decide (x16_2 < ((rd_L1 l0 x10_1).length : Int)) = true := decide_eq_true c7
                      clear c7
                      replace H := Option.bind_eq_some_iff.mp H
                      obtain ⟨t103, A80, H⟩ := H
                      replace H : (lines_Longest.l1 k2 (mx x3_2 t103) l0 (l0.length : Int) x10_1 (rd_L1 l0 x10_1) ((rd_L1 l0 x10_1).length : Int) (wrap64 (x16_2 + 1))) = some r := H
                      have A8 := Aside0.mk A80
                      clear A80
                      obtain ⟨ji9, hji9⟩ : ∃ j_ : Int, (mx x3_2 t103) = j_ := ⟨_, rfl⟩
                      replace H : (lines_Longest.l1 k2 ji9 l0 (l0.length : Int) x10_1 (rd_L1 l0 x10_1) ((rd_L1 l0 x10_1).length : Int) (wrap64 (x16_2 + 1))) = some r := by first | (rw [hji9] at H; exact H) | (simp only [hji9] at H ⊢; exact H)
                      (try rw [hji9] at A8)
                      have hji9_ : (if x3_2 < t103 then t103 else x3_2) = ji9 := hji9
                      have H' := Aside0.mk H
                      clear H
                      have p102 : 0 ≤ (x16_2 : Int) := of_decide_eq_true (by first | (with_reducible assumption) | assumption)
                      have q102 : x16_2 < ((rd_L1 l0 x10_1).length : Int) := of_decide_eq_true (by first | (with_reducible assumption) | assumption)
                      obtain ⟨ad102, e102, hx102_0⟩ := Kd.at_string HR101_0.out x16_2 p102 q102
                      cases e102
                      replace hx102_0 := (HB.out.cell (World.block_lt_of_cell? w _ hx102_0)).trans hx102_0
                      replace p102 := eq_true p102
                      replace q102 := eq_true q102
                      go_wp2_with (first | ((with_reducible refine gate_callee (f := 43) rfl ?_); refine goesL_ (some 22) rfl rfl Try.func43 (by kernel_rfl) rfl #[.string (rdOf ByteArray.empty (rd_L1 l0 x10_1) x16_2)] rfl (by (try simp only [List.map_toArray, List.map_cons, List.map_nil]); first | done | rfl | (simp only [List.length_drop, List.length_take]; rfl)) ?_; (with_reducible refine (lines_Run.calls (rdOf ByteArray.empty (rd_L1 l0 x10_1) x16_2) t103 _ A8.out).mono ?_); rintro e w10 ⟨rfl, hb⟩; refine ⟨_, rfl, ?_⟩; have n0_ := Aside0.mk (below_step (by repeat (first | (with_reducible first | exact HB.out | apply below_alloc | apply pw_below_drewN | apply below_drew1) | exact HB.out)) hb); clear HB; have HB := n0_; clear n0_; (try clear hb); (try clear hb2); (try clear hk); (try clear hi)))
                      go_roundg k2
                      case measure => have := HK1.out; have := HK2.out; omega
                      case rel => exact ⟨(ji9), (wrap64 (x16_2 + 1)), (by first | rfl | (simp; done) | (simp only [← hji9] <;> (first | rfl | simp)) | (simp [*]; done)), (by first | rfl | (simp; done) | (simp [*]; done)), H', ⟨by have := HK1.out; have := HK2.out; omega⟩, ⟨by repeat (first | (with_reducible first | exact HB.out | apply below_alloc | apply pw_below_drewN | apply below_drew1) | exact HB.out)⟩⟩
                    · rw [if_neg c7] at H
                      exact absurd H (by simp)
                  · rw [if_neg c6] at H
                    exact absurd H (by simp)
                · rw [if_neg c5] at H
                  have c5b0 : decide (x16_2 < ((rd_L1 l0 x10_1).length : Int)) = false := decide_eq_false c5
                  clear c5
                  have H' := Aside0.mk H
                  clear H
                  go_wp2
                  go_roundg k2
                  case measure => have := HK1.out; have := HK2.out; omega
                  case rel => exact ⟨(x3_2), (wrap64 (x10_1 + 1)), (by first | rfl | (simp; done) | (simp [*]; done)), (by first | rfl | (simp; done) | (simp [*]; done)), H', ⟨by have := HK1.out; have := HK2.out; omega⟩, ⟨by repeat (first | (with_reducible first | exact HB.out | apply below_alloc | apply pw_below_drewN | apply below_drew1) | exact HB.out)⟩⟩
          · rw [if_neg c4] at H
            exact absurd H (by simp)
        · rw [if_neg c3] at H
          exact absurd H (by simp)
      · rw [if_neg c2] at H
        have c2b0 : decide (x10_1 < (l0.length : Int)) = false := decide_eq_false c2
        clear c2
        obtain rfl := Option.some.inj H
        go_wp2
        go_ret
        exact ⟨by first | rfl | (simp [errW_none, errW_some] <;> rfl) | (simp [*, errW_none, errW_some] <;> rfl), by repeat (first | (with_reducible first | exact HB.out | apply below_alloc | apply pw_below_drewN | apply below_drew1) | exact HB.out)⟩
end Go.Proofs.Ytfiamddinkokbaa.F
end

section
set_option linter.unusedVariables false
set_option linter.unusedSimpArgs false
namespace Go.Proofs.Ytfiamddinkokbaa.F
open Go.RowKit Go.Shelf Go.Proofs.YtfiamddinkokbaaW.PrintWords
set_option linter.unusedVariables false
set_option linter.unusedSimpArgs false
def lA : ByteArray := ⟨#[97, 10]⟩
def lB : ByteArray := ⟨#[98]⟩
theorem told_split (w : World) : Calls Try.prog 29 #[.string ⟨#[97, 10, 98]⟩] w fun e w' => ∃ b o c, e = .returned (.slice (some ⟨b, o, none⟩) 2 c) ∧ 2 ≤ c ∧
    w'.cell? ⟨b, o, none⟩ = some (.string lA) ∧ w'.cell? ⟨b, o + 1, none⟩ = some (.string lB) ∧ Below w.heap.size w w' := by
  refine (lines_Split.calls ⟨#[97, 10, 98]⟩ [lA, lB] w (by decide +kernel)).mono ?_
  rintro e w' ⟨v, rfl, hr, hb⟩
  obtain ⟨A, c, rfl, hc, hC⟩ := Kd.R_reads hr
  obtain ⟨b, o, rfl, _, hcell⟩ := C_string_cells hC (by decide)
  exact ⟨b, o, c, rfl, hc, hcell 0 _ rfl, hcell 1 _ rfl, hb⟩
theorem two_strings {W : World} {b o : Nat} {x y : ByteArray} (h0 : W.cell? ⟨b, o, none⟩ = some (.string x)) (h1 : W.cell? ⟨b, o + 1, none⟩ = some (.string y)) : Kd.C Kd.string W (some ⟨b, o, none⟩) 2 [x, y] := by
  refine ⟨rfl, by omega, fun _ => ⟨_, rfl, ?_⟩⟩
  intro j p hj
  refine ⟨[.string p], rfl, rfl, ?_⟩
  intro i u hi
  have hi0 : i = 0 := by
    match i, hi with
    | 0, _ => rfl
  subst hi0
  obtain rfl : Value.string p = u := by simpa using hi
  rw [add_at, show (Kd.string).sz = 1 from rfl]
  match j, hj with
  | 0, hj => simp at hj; subst hj; exact h0
  | 1, hj => simp at hj; subst hj; exact h1
theorem one_string {W : World} {b o : Nat} {x : ByteArray} (h0 : W.cell? ⟨b, o, none⟩ = some (.string x)) : Kd.C Kd.string W (some ⟨b, o, none⟩) 1 [x] := by
  refine ⟨rfl, by omega, fun _ => ⟨_, rfl, ?_⟩⟩
  intro j p hj
  refine ⟨[.string p], rfl, rfl, ?_⟩
  intro i u hi
  have hi0 : i = 0 := by
    match i, hi with
    | 0, _ => rfl
  subst hi0
  obtain rfl : Value.string p = u := by simpa using hi
  rw [add_at, show (Kd.string).sz = 1 from rfl]
  match j, hj with
  | 0, hj => simp at hj; subst hj; exact h0
theorem two_rows {W : World} {b : Nat} {x y : List ByteArray} {A B : Option Addr} {c d n m : Nat} (h0 : W.cell? ⟨b, 0, none⟩ = some (.slice A n c)) (h1 : W.cell? ⟨b, 1, none⟩ = some (.slice B m d))
    (hx : Kd.C Kd.string W A n x) (hy : Kd.C Kd.string W B m y) (hc : n ≤ c) (hd : m ≤ d) : Kd.C (Kd.slice 9 Kd.string) W (some ⟨b, 0, none⟩) 2 [x, y] := by
  obtain rfl := hx.1
  obtain rfl := hy.1
  refine ⟨rfl, by omega, fun _ => ⟨_, rfl, ?_⟩⟩
  intro j p hj
  match j, hj with
  | 0, hj =>
    simp at hj; subst hj
    refine ⟨[.slice A x.length c], rfl, ⟨A, c, rfl, hc, hx⟩, ?_⟩
    intro i u hi
    match i, hi with
    | 0, hi => simp at hi; subst hi; rw [add_plain]; exact h0
  | 1, hj =>
    simp at hj; subst hj
    refine ⟨[.slice B y.length d], rfl, ⟨B, d, rfl, hd, hy⟩, ?_⟩
    intro i u hi
    match i, hi with
    | 0, hi => simp at hi; subst hi; rw [add_plain]; exact h1
theorem told_number (W : World) (g b o c b2 d : Nat) (h0 : W.cell? ⟨g, 0, none⟩ = some (.slice (some ⟨b, o, none⟩) 2 c)) (h1 : W.cell? ⟨g, 1, none⟩ = some (.slice (some ⟨b2, 0, none⟩) 1 d)) (hc : 2 ≤ c) (hd : 1 ≤ d)
    (l0 : W.cell? ⟨b, o, none⟩ = some (.string lA)) (l1 : W.cell? ⟨b, o + 1, none⟩ = some (.string lB)) (m0 : W.cell? ⟨b2, 0, none⟩ = some (.string lB)) :
    Calls Try.prog 38 #[.slice (some ⟨g, 0, none⟩) 2 2] W fun e w' => ∃ b3 c3 b4 o4 c4, e = .returned (.slice (some ⟨b3, 0, none⟩) 2 c3) ∧ w'.cell? ⟨b3, 1, none⟩ = some (.slice (some ⟨b4, o4, none⟩) 1 c4) ∧ w'.cell? ⟨b4, o4, none⟩ = some (.int .i64 1) ∧ Below W.heap.size W w' := by
  refine (lines_Number.calls (some ⟨g, 0, none⟩) 2 [[lA, lB], [lB]] [[0, 1], [1]] W (two_rows h0 h1 (two_strings l0 l1) (one_string m0) hc hd) (Nat.le_refl 2) (by decide +kernel)).mono ?_
  rintro e w' ⟨v, rfl, hr, hb⟩
  obtain ⟨g3, c3, e3, _, _, _, _⟩ := Kd.R_form (Kd.S_R hr) (by decide)
  obtain ⟨A, c', e4, hc', hC⟩ := Kd.S_reads hr
  rw [e3] at e4
  injection e4 with e5 e6 e7
  subst e5
  obtain ⟨ad, e8, hcells⟩ := hC.2.2 (by decide)
  obtain rfl := Option.some.inj e8
  obtain ⟨cs, _, ⟨A4, c4, rfl, hc4, hC4⟩, hcell⟩ := hcells 1 [1] rfl
  have k1 := hcell 0 _ rfl
  rw [add_plain] at k1
  obtain ⟨ad4, rfl, hcells4⟩ := hC4.2.2 (by decide)
  obtain ⟨cs4, _, hk4, hcell4⟩ := hcells4 0 1 rfl
  have hk4' : cs4 = [Value.int .i64 1] := hk4
  subst hk4'
  have k2 := hcell4 0 _ rfl
  obtain ⟨b4, o4, sp⟩ := ad4
  have hsp : sp = none := by
    cases sp with
    | none => rfl
    | some q =>
      exfalso
      simp [Addr.add, World.cell?] at k2
      split at k2 <;> simp_all
  subst hsp
  rw [add_at] at k2
  refine ⟨g3, c3, b4, o4, c4, ?_, k1, k2, hb⟩
  rw [e3]; rfl
theorem told_longest (W : World) (g b o c b2 d : Nat) (h0 : W.cell? ⟨g, 0, none⟩ = some (.slice (some ⟨b, o, none⟩) 2 c)) (h1 : W.cell? ⟨g, 1, none⟩ = some (.slice (some ⟨b2, 0, none⟩) 1 d)) (hc : 2 ≤ c) (hd : 1 ≤ d)
    (l0 : W.cell? ⟨b, o, none⟩ = some (.string lA)) (l1 : W.cell? ⟨b, o + 1, none⟩ = some (.string lB)) (m0 : W.cell? ⟨b2, 0, none⟩ = some (.string ⟨#[60, 60]⟩)) :
    Calls Try.prog 40 #[.slice (some ⟨g, 0, none⟩) 2 2] W fun e w' => e = .returned (.int .i64 2) ∧ Below W.heap.size W w' :=
  lines_Longest.calls 20 (some ⟨g, 0, none⟩) 2 [[lA, lB], [⟨#[60, 60]⟩]] 2 W (two_rows h0 h1 (two_strings l0 l1) (one_string m0) hc hd) (Nat.le_refl 2) (by decide +kernel)
theorem told_join (W : World) (b o c : Nat) (hc : 2 ≤ c) (l0 : W.cell? ⟨b, o, none⟩ = some (.string lA)) (l1 : W.cell? ⟨b, o + 1, none⟩ = some (.string lB)) :
    Calls Try.prog 33 #[.slice (some ⟨b, o, none⟩) 2 c] W fun e w' => e = .returned (.string ⟨#[97, 10, 98]⟩) ∧ Below W.heap.size W w' :=
  lines_Join.calls (some ⟨b, o, none⟩) c [lA, lB] ⟨#[97, 10, 98]⟩ W (two_strings l0 l1) hc (by decide +kernel)
theorem told_whole (W : World) (b o c : Nat) (hc : 2 ≤ c) (l0 : W.cell? ⟨b, o, none⟩ = some (.string lA)) (l1 : W.cell? ⟨b, o + 1, none⟩ = some (.string lB)) :
    Calls Try.prog 34 #[.slice (some ⟨b, o, none⟩) 2 c] W fun e w' => e = .returned (.bool true) ∧ Drawn0 W w' :=
  lines_Whole.calls 20 (some ⟨b, o, none⟩) c [lA, lB] true W (two_strings l0 l1) hc (by decide +kernel)
theorem told_whole2 (W : World) (b : Nat) (l0 : W.cell? ⟨b, 0, none⟩ = some (.string ⟨#[97]⟩)) (l1 : W.cell? ⟨b, 0 + 1, none⟩ = some (.string ⟨#[98]⟩)) :
    Calls Try.prog 34 #[.slice (some ⟨b, 0, none⟩) 2 2] W fun e w' => e = .returned (.bool false) ∧ Drawn0 W w' :=
  lines_Whole.calls 20 (some ⟨b, 0, none⟩) 2 [⟨#[97]⟩, ⟨#[98]⟩] false W (two_strings l0 l1) (Nat.le_refl 2) (by decide +kernel)
theorem told_run (W : World) : Calls Try.prog 43 #[.string ⟨#[61, 61, 61, 120]⟩] W fun e w' => e = .returned (.int .i64 3) ∧ Below W.heap.size W w' :=
  lines_Run.calls ⟨#[61, 61, 61, 120]⟩ 3 W (by decide +kernel)
theorem tr {W W' : World} {p : Addr} {v : Value} (hb : Below W.heap.size W W') (h : W.cell? p = some v) : W'.cell? p = some v := (hb.cell (World.block_lt_of_cell? W _ h)).trans h
theorem tr_alloc {W : World} {p : Addr} {v : Value} (o : Obj) (h : W.cell? p = some v) : (W.alloc o).cell? p = some v := tr (below_alloc (Below.refl _ _) o) h
theorem new_cell (W : World) (cs : Array Value) (t : TypeId) (i : Nat) : (W.alloc (.cells cs t)).cell? ⟨W.heap.size, i, none⟩ = cs[i]? := blk_cell (World.alloc_heap_new W _) i
theorem told_number_at (W : World) (b o c : Nat) (hc : 2 ≤ c) (l0 : W.cell? ⟨b, o, none⟩ = some (.string lA)) (l1 : W.cell? ⟨b, o + 1, none⟩ = some (.string lB)) :
    Calls Try.prog 38 #[.slice (some ⟨W.heap.size + 1, 0, none⟩) 2 2] ((W.alloc (.cells #[.string ⟨#[98]⟩] 9)).alloc (.cells #[.slice (some ⟨b, o, none⟩) 2 c, .slice (some ⟨W.heap.size, 0, none⟩) 1 1] 36)) fun e w' =>
      ∃ b3 c3 b4 o4 c4, e = .returned (.slice (some ⟨b3, 0, none⟩) 2 c3) ∧ w'.cell? ⟨b3, 1, none⟩ = some (.slice (some ⟨b4, o4, none⟩) 1 c4) ∧ w'.cell? ⟨b4, o4, none⟩ = some (.int .i64 1) ∧ w'.cell? ⟨b, o, none⟩ = some (.string lA) ∧ w'.cell? ⟨b, o + 1, none⟩ = some (.string lB) ∧ Below W.heap.size W w' := by
  have hs : (W.alloc (.cells #[.string ⟨#[98]⟩] 9)).heap.size = W.heap.size + 1 := World.size_alloc _ _
  have k0 := tr_alloc (.cells #[.slice (some ⟨b, o, none⟩) 2 c, .slice (some ⟨W.heap.size, 0, none⟩) 1 1] 36) (tr_alloc (.cells #[.string ⟨#[98]⟩] 9) l0)
  have k1 := tr_alloc (.cells #[.slice (some ⟨b, o, none⟩) 2 c, .slice (some ⟨W.heap.size, 0, none⟩) 1 1] 36) (tr_alloc (.cells #[.string ⟨#[98]⟩] 9) l1)
  refine (told_number _ (W.heap.size + 1) b o c W.heap.size 1 ?_ ?_ hc (Nat.le_refl 1) k0 k1 (tr_alloc _ (new_cell W _ _ 0))).mono ?_
  · rw [← hs]; exact new_cell _ _ _ 0
  · rw [← hs]; exact new_cell _ _ _ 1
  · rintro e w' ⟨b3, c3, b4, o4, c4, rfl, n1, n2, hb⟩
    exact ⟨b3, c3, b4, o4, c4, rfl, n1, n2, tr hb k0, tr hb k1, below_step (below_alloc (below_alloc (Below.refl _ _) _) _) hb⟩
theorem told_longest_at (W : World) (b o c : Nat) (hc : 2 ≤ c) (l0 : W.cell? ⟨b, o, none⟩ = some (.string lA)) (l1 : W.cell? ⟨b, o + 1, none⟩ = some (.string lB)) :
    Calls Try.prog 40 #[.slice (some ⟨W.heap.size + 1, 0, none⟩) 2 2] ((W.alloc (.cells #[.string ⟨#[60, 60]⟩] 9)).alloc (.cells #[.slice (some ⟨b, o, none⟩) 2 c, .slice (some ⟨W.heap.size, 0, none⟩) 1 1] 36)) fun e w' =>
      e = .returned (.int .i64 2) ∧ w'.cell? ⟨b, o, none⟩ = some (.string lA) ∧ w'.cell? ⟨b, o + 1, none⟩ = some (.string lB) ∧ Below W.heap.size W w' := by
  have hs : (W.alloc (.cells #[.string ⟨#[60, 60]⟩] 9)).heap.size = W.heap.size + 1 := World.size_alloc _ _
  have k0 := tr_alloc (.cells #[.slice (some ⟨b, o, none⟩) 2 c, .slice (some ⟨W.heap.size, 0, none⟩) 1 1] 36) (tr_alloc (.cells #[.string ⟨#[60, 60]⟩] 9) l0)
  have k1 := tr_alloc (.cells #[.slice (some ⟨b, o, none⟩) 2 c, .slice (some ⟨W.heap.size, 0, none⟩) 1 1] 36) (tr_alloc (.cells #[.string ⟨#[60, 60]⟩] 9) l1)
  refine (told_longest _ (W.heap.size + 1) b o c W.heap.size 1 ?_ ?_ hc (Nat.le_refl 1) k0 k1 (tr_alloc _ (new_cell W _ _ 0))).mono ?_
  · rw [← hs]; exact new_cell _ _ _ 0
  · rw [← hs]; exact new_cell _ _ _ 1
  · rintro e w' ⟨rfl, hb⟩
    exact ⟨rfl, tr hb k0, tr hb k1, below_step (below_alloc (below_alloc (Below.refl _ _) _) _) hb⟩
theorem told_whole2_at (W : World) : Calls Try.prog 34 #[.slice (some ⟨W.heap.size, 0, none⟩) 2 2] (W.alloc (.cells #[.string ⟨#[97]⟩, .string ⟨#[98]⟩] 9)) fun e w' => e = .returned (.bool false) ∧ Below W.heap.size W w' := by
  refine (told_whole2 _ W.heap.size (new_cell W _ _ 0) (new_cell W _ _ 1)).mono ?_
  rintro e w' ⟨rfl, n, rfl⟩
  exact ⟨rfl, pw_below_drewN (below_alloc (Below.refl _ _) _) n⟩
set_option maxHeartbeats 4000000 in
set_option maxRecDepth 100000 in
theorem told01_calls (w : World) : Calls Try.prog 30 #[] w fun e w' => e = .returned (.bool true) ∧ Below w.heap.size w w' := by
  have HB := Aside0.mk (Below.refl w.heap.size w)
  go_enter Try.func30, Try.ntmps30
  go_wp2_with (first
    | (go_at_call 29; refine (told_split _).mono ?_; rintro e w1 ⟨b, o, c, rfl, hc, l0, l1, hb1⟩; have h2 : (0 : Int) ≤ ((2 : Nat) : Int) := (by omega); replace HB := Aside0.mk (below_step HB.out hb1); clear hb1)
    | (go_at_call 38; refine (told_number_at _ b o c hc l0 l1).mono ?_; clear l0 l1; rintro e w2 ⟨b3, c3, b4, o4, c4, rfl, n1, n2, l0, l1, hb2⟩; replace HB := Aside0.mk (below_step HB.out hb2); clear hb2)
    | (go_at_call 33; refine (told_join _ b o c hc l0 l1).mono ?_; rintro e w3 ⟨rfl, hb3⟩; replace n1 := tr hb3 n1; replace n2 := tr hb3 n2; replace l0 := tr hb3 l0; replace l1 := tr hb3 l1; replace HB := Aside0.mk (below_step HB.out hb3); clear hb3)
    | (go_at_call 43; refine (told_run _).mono ?_; rintro e w4 ⟨rfl, hb4⟩; clear n1 n2; replace l0 := tr hb4 l0; replace l1 := tr hb4 l1; replace HB := Aside0.mk (below_step HB.out hb4); clear hb4)
    | (go_at_call 40; refine (told_longest_at _ b o c hc l0 l1).mono ?_; clear l0 l1; rintro e w5 ⟨rfl, l0, l1, hb5⟩; replace HB := Aside0.mk (below_step HB.out hb5); clear hb5)
    | (go_at_call_of 34 (Value.slice (some ⟨b, o, none⟩) 2 c); refine (told_whole _ b o c hc l0 l1).mono ?_; rintro e w6 ⟨rfl, n6, rfl⟩; clear l0 l1; replace HB := Aside0.mk (pw_below_drewN HB.out n6))
    | (go_at_call 34; refine (told_whole2_at _).mono ?_; rintro e w7 ⟨rfl, hb7⟩; replace HB := Aside0.mk (below_step HB.out hb7); clear hb7))
  · go_ret
    exact ⟨rfl, HB.out⟩
  · exact absurd (show lB.toList = [98] by decide +kernel) (by assumption)
  · exact absurd (show lA.toList = [97, 10] by decide +kernel) (by assumption)
#print axioms told01_calls
end Go.Proofs.Ytfiamddinkokbaa.F
end

section
set_option linter.unusedVariables false
set_option linter.unusedSimpArgs false
namespace Go.Proofs.Ytfiamddinkokbaa.F
open Go.RowKit Go.Proofs.YtfiamddinkokbaaW.PrintWords Go.Proofs.YtfiamddinkokbaaW.PrintLast Go.Proofs.YtfiamddinkokbaaW.PrintMore
attribute [local go_sem] max2_int min2_int max_two min_two max_three min_three max_four min_four
set_option linter.unusedVariables false
set_option linter.unusedSimpArgs false
def tripartitelaw01_told.f : Option Bool := some true
theorem tripartitelaw01_told.calls  (r : Bool) (w : World) (h : tripartitelaw01_told.f  = some r) :
    Calls Try.prog 30 #[] w fun e w' => e = .returned (.bool r) ∧ Below w.heap.size w w' := by
  obtain rfl := Option.some.inj h
  exact told01_calls w
end Go.Proofs.Ytfiamddinkokbaa.F
end

section
set_option linter.unusedVariables false
set_option linter.unusedSimpArgs false
namespace Go.Proofs.Ytfiamddinkokbaa.F
open Go.RowKit Go.Proofs.YtfiamddinkokbaaW.PrintWords Go.Proofs.YtfiamddinkokbaaW.PrintLast Go.Proofs.YtfiamddinkokbaaW.PrintMore
attribute [local go_sem] max2_int min2_int max_two min_two max_three min_three max_four min_four
set_option linter.unusedVariables false
set_option linter.unusedSimpArgs false
def tripartiteref01_Same.l0 : Nat → List ByteArray → List ByteArray → Int → Option (Bool)
  | 0, _, _, _ => none
  | k + 1, x0, x1, x5 => if x5 < (x0.length : Int) then (if 0 ≤ x5 then (if x5 < (x1.length : Int) then (if (rdOf ByteArray.empty x0 x5).toList = (rdOf ByteArray.empty x1 x5).toList then (tripartiteref01_Same.l0 k x0 x1 (wrap64 (x5 + 1))) else (some false)) else (none)) else (none)) else (some true)
def tripartiteref01_Same.f (k : Nat) (l0 : List ByteArray) (l1 : List ByteArray) : Option (Bool) := if (l0.length : Int) = (l1.length : Int) then (tripartiteref01_Same.l0 k l0 l1 0) else (some false)
theorem tripartiteref01_Same.mono_l : ∀ k, (∀ y0 y1 y2, LeO (tripartiteref01_Same.l0 k y0 y1 y2) (tripartiteref01_Same.l0 (k + 1) y0 y1 y2))
  | 0 => fun _ _ _ r h => by simp [tripartiteref01_Same.l0] at h
  | k + 1 => by
    have ih0 := tripartiteref01_Same.mono_l k
    · intro y0 y1 y2
      unfold tripartiteref01_Same.l0
      repeat' first
      | (with_reducible exact ih0 _ _ _)
      | (with_reducible exact LeO.refl _)
      | (with_reducible exact LeO.none _)
      | (with_reducible refine LeO.ite ?_ ?_)
      | (with_reducible refine LeO.bind ?_ (fun _ => ?_))
      | exact ih0 _ _ _
      | exact LeO.none _
      | refine LeO.ite ?_ ?_
      | refine LeO.bind ?_ (fun _ => ?_)
theorem tripartiteref01_Same.mono : ∀ a0 a1 k, LeO (tripartiteref01_Same.f k a0 a1) (tripartiteref01_Same.f (k + 1) a0 a1) := by
  intro a0 a1 k
  have ih0 := tripartiteref01_Same.mono_l k
  unfold tripartiteref01_Same.f
  repeat' first
      | (with_reducible exact ih0 _ _ _)
      | (with_reducible exact LeO.refl _)
      | (with_reducible exact LeO.none _)
      | (with_reducible refine LeO.ite ?_ ?_)
      | (with_reducible refine LeO.bind ?_ (fun _ => ?_))
      | exact ih0 _ _ _
      | exact LeO.none _
      | refine LeO.ite ?_ ?_
      | refine LeO.bind ?_ (fun _ => ?_)
set_option maxHeartbeats 8000000 in
set_option maxRecDepth 100000 in
theorem tripartiteref01_Same.calls (k : Nat) (A0 : Option Addr) (c0 : Nat) (l0 : List ByteArray) (A1 : Option Addr) (c1 : Nat) (l1 : List ByteArray) (r : Bool) (w : World) (hr0 : Kd.C Kd.string w A0 l0.length l0) (hc0 : l0.length ≤ c0) (hr1 : Kd.C Kd.string w A1 l1.length l1) (hc1 : l1.length ≤ c1) (h : tripartiteref01_Same.f k l0 l1 = some r) :
    Calls Try.prog 31 #[.slice A0 l0.length c0, .slice A1 l1.length c1] w fun e w' => e = .returned (.bool r) ∧ Drawn0 w w' := by
  have HR0 := Aside0.mk hr0
  have HC0 := Aside0.mk hc0
  clear hr0 hc0
  have HR1 := Aside0.mk hr1
  have HC1 := Aside0.mk hc1
  clear hr1 hc1
  have H : (if (l0.length : Int) = (l1.length : Int) then (tripartiteref01_Same.l0 k l0 l1 0) else (some false)) = some r := h
  clear h
  by_cases c3 : (l0.length : Int) = (l1.length : Int)
  · rw [if_pos c3] at H
    have c3b0 : ((l0.length : Int) == (l1.length : Int)) = true := beq_iff_eq.mpr c3
    have c3b1 : ((l0.length : Int) != (l1.length : Int)) = false := bne_eq_false_iff_eq.mpr c3
    have c3b2 : (l0.length == l1.length) = true := by first | simpa using c3 | (simp at c3 ⊢; omega)
    clear c3
    have H' := Aside0.mk H
    clear H
    go_enter Try.func31, Try.ntmps31
    go_wp2
    repeat (go_quiet (fail); try go_wp2)
    go_loopg [5] k (fun kq v5 w' => ∃ (x5_1 : Int), v5 = .int .i64 x5_1 ∧ Aside0 (tripartiteref01_Same.l0 kq l0 l1 x5_1 = some r) ∧ Aside0 (kq ≤ k) ∧ Drawn0 w w')
    case atStart => exact ⟨(0), (by first | rfl | (simp; done) | (simp [*]; done)), H', ⟨Nat.le_refl _⟩, by repeat (first | exact Drawn0.refl _ | apply Drawn0.step)⟩
    case round =>
      clear H'
      try clear c1
      try clear p2
      try clear c3
      try clear c3b0
      try clear c3b1
      try clear c3b2
      obtain ⟨x5_1, rfl, HA, HK1, ⟨m1, rfl⟩⟩ := hrel
      cases gk with
      | zero => exact absurd HA.out (by simp [tripartiteref01_Same.l0])
      | succ k1 =>
        have H := HA.out
        clear HA
        simp only [tripartiteref01_Same.l0] at H
        by_cases c4 : x5_1 < (l0.length : Int)
        · rw [if_pos c4] at H
          have c4b0 : decide (x5_1 < (l0.length : Int)) = true := decide_eq_true c4
          clear c4
          by_cases c5 : 0 ≤ x5_1
          · rw [if_pos c5] at H
            have c5b0 : decide (0 ≤ x5_1) = true := decide_eq_true c5
            clear c5
            by_cases c6 : x5_1 < (l1.length : Int)
            · rw [if_pos c6] at H
              have c6b0 : decide (x5_1 < (l1.length : Int)) = true := decide_eq_true c6
              clear c6
              by_cases c7 : (rdOf ByteArray.empty l0 x5_1).toList = (rdOf ByteArray.empty l1 x5_1).toList
              · rw [if_pos c7] at H
                have c7b0 : ((rdOf ByteArray.empty l0 x5_1).toList == (rdOf ByteArray.empty l1 x5_1).toList) = true := beq_iff_eq.mpr c7
                have c7b1 : ((rdOf ByteArray.empty l0 x5_1).toList != (rdOf ByteArray.empty l1 x5_1).toList) = false := bne_eq_false_iff_eq.mpr c7
                clear c7
                have H' := Aside0.mk H
                clear H
                have p278 : 0 ≤ (x5_1 : Int) := of_decide_eq_true (by first | (with_reducible assumption) | assumption)
                have q278 : x5_1 < (l0.length : Int) := of_decide_eq_true (by first | (with_reducible assumption) | assumption)
                obtain ⟨ad278, e278, hx278_0⟩ := Kd.at_string HR0.out x5_1 p278 q278
                cases e278
                replace p278 := eq_true p278
                replace q278 := eq_true q278
                have p279 : 0 ≤ (x5_1 : Int) := of_decide_eq_true (by first | (with_reducible assumption) | assumption)
                have q279 : x5_1 < (l1.length : Int) := of_decide_eq_true (by first | (with_reducible assumption) | assumption)
                obtain ⟨ad279, e279, hx279_0⟩ := Kd.at_string HR1.out x5_1 p279 q279
                cases e279
                replace p279 := eq_true p279
                replace q279 := eq_true q279
                go_wp2
                repeat (go_quiet (fail); try go_wp2)
                go_roundg k1
                case measure => have := HK1.out; omega
                case rel => exact ⟨(wrap64 (x5_1 + 1)), (by first | rfl | (simp; done) | (simp [*]; done)), H', ⟨by have := HK1.out; omega⟩, by repeat (first | exact Drawn0.refl _ | apply Drawn0.step)⟩
              · rw [if_neg c7] at H
                have c7b0 : ((rdOf ByteArray.empty l0 x5_1).toList == (rdOf ByteArray.empty l1 x5_1).toList) = false := beq_eq_false_iff_ne.mpr c7
                have c7b1 : ((rdOf ByteArray.empty l0 x5_1).toList != (rdOf ByteArray.empty l1 x5_1).toList) = true := bne_iff_ne.mpr c7
                obtain rfl := Option.some.inj H
                have p278 : 0 ≤ (x5_1 : Int) := of_decide_eq_true (by first | (with_reducible assumption) | assumption)
                have q278 : x5_1 < (l0.length : Int) := of_decide_eq_true (by first | (with_reducible assumption) | assumption)
                obtain ⟨ad278, e278, hx278_0⟩ := Kd.at_string HR0.out x5_1 p278 q278
                cases e278
                replace p278 := eq_true p278
                replace q278 := eq_true q278
                have p279 : 0 ≤ (x5_1 : Int) := of_decide_eq_true (by first | (with_reducible assumption) | assumption)
                have q279 : x5_1 < (l1.length : Int) := of_decide_eq_true (by first | (with_reducible assumption) | assumption)
                obtain ⟨ad279, e279, hx279_0⟩ := Kd.at_string HR1.out x5_1 p279 q279
                cases e279
                replace p279 := eq_true p279
                replace q279 := eq_true q279
                go_wp2
                repeat (go_quiet (fail); try go_wp2)
                go_ret
                exact ⟨by first | rfl | (simp; done) | (simp [*]; done), by repeat (first | exact Drawn0.refl _ | apply Drawn0.step)⟩
            · rw [if_neg c6] at H
              exact absurd H (by simp)
          · rw [if_neg c5] at H
            exact absurd H (by simp)
        · rw [if_neg c4] at H
          have c4b0 : decide (x5_1 < (l0.length : Int)) = false := decide_eq_false c4
          clear c4
          obtain rfl := Option.some.inj H
          go_wp2
          repeat (go_quiet (fail); try go_wp2)
          go_ret
          exact ⟨by first | rfl | (simp; done) | (simp [*]; done), by repeat (first | exact Drawn0.refl _ | apply Drawn0.step)⟩
  · rw [if_neg c3] at H
    have c3b0 : ((l0.length : Int) == (l1.length : Int)) = false := beq_eq_false_iff_ne.mpr c3
    have c3b1 : ((l0.length : Int) != (l1.length : Int)) = true := bne_iff_ne.mpr c3
    have c3b2 : (l0.length == l1.length) = false := by first | simpa using c3 | (simp at c3 ⊢; omega)
    obtain rfl := Option.some.inj H
    go_enter Try.func31, Try.ntmps31
    go_wp2
    repeat (go_quiet (fail); try go_wp2)
    go_ret
    exact ⟨by first | rfl | (simp; done) | (simp [*]; done), by repeat (first | exact Drawn0.refl _ | apply Drawn0.step)⟩
end Go.Proofs.Ytfiamddinkokbaa.F
end

section
set_option linter.unusedVariables false
set_option linter.unusedSimpArgs false
namespace Go.Proofs.Ytfiamddinkokbaa.F
open Go.RowKit Go.Proofs.YtfiamddinkokbaaW.PrintWords Go.Proofs.YtfiamddinkokbaaW.PrintLast Go.Proofs.YtfiamddinkokbaaW.PrintMore
attribute [local go_sem] max2_int min2_int max_two min_two max_three min_three max_four min_four
set_option linter.unusedVariables false
set_option linter.unusedSimpArgs false
def tripartitelaw01_few.l0 : Nat → List ByteArray → Int → Option (Bool)
  | 0, _, _ => none
  | k + 1, x0, x3 => if x3 < (x0.length : Int) then (if 0 ≤ x3 then (if ((rdOf ByteArray.empty x0 x3).size : Int) > 400 then (some false) else (tripartitelaw01_few.l0 k x0 (wrap64 (x3 + 1)))) else (none)) else (some (decide ((x0.length : Int) ≤ 200)))
def tripartitelaw01_few.f (k : Nat) (l0 : List ByteArray) : Option (Bool) := tripartitelaw01_few.l0 k l0 0
theorem tripartitelaw01_few.mono_l : ∀ k, (∀ y0 y1, LeO (tripartitelaw01_few.l0 k y0 y1) (tripartitelaw01_few.l0 (k + 1) y0 y1))
  | 0 => fun _ _ r h => by simp [tripartitelaw01_few.l0] at h
  | k + 1 => by
    have ih0 := tripartitelaw01_few.mono_l k
    · intro y0 y1
      unfold tripartitelaw01_few.l0
      repeat' first
      | (with_reducible exact ih0 _ _)
      | (with_reducible exact LeO.refl _)
      | (with_reducible exact LeO.none _)
      | (with_reducible refine LeO.ite ?_ ?_)
      | (with_reducible refine LeO.bind ?_ (fun _ => ?_))
      | exact ih0 _ _
      | exact LeO.none _
      | refine LeO.ite ?_ ?_
      | refine LeO.bind ?_ (fun _ => ?_)
theorem tripartitelaw01_few.mono : ∀ a0 k, LeO (tripartitelaw01_few.f k a0) (tripartitelaw01_few.f (k + 1) a0) := by
  intro a0 k
  have ih0 := tripartitelaw01_few.mono_l k
  unfold tripartitelaw01_few.f
  repeat' first
      | (with_reducible exact ih0 _ _)
      | (with_reducible exact LeO.refl _)
      | (with_reducible exact LeO.none _)
      | (with_reducible refine LeO.ite ?_ ?_)
      | (with_reducible refine LeO.bind ?_ (fun _ => ?_))
      | exact ih0 _ _
      | exact LeO.none _
      | refine LeO.ite ?_ ?_
      | refine LeO.bind ?_ (fun _ => ?_)
set_option maxHeartbeats 8000000 in
set_option maxRecDepth 100000 in
theorem tripartitelaw01_few.calls (k : Nat) (A0 : Option Addr) (c0 : Nat) (l0 : List ByteArray) (r : Bool) (w : World) (hr0 : Kd.C Kd.string w A0 l0.length l0) (hc0 : l0.length ≤ c0) (h : tripartitelaw01_few.f k l0 = some r) :
    Calls Try.prog 35 #[.slice A0 l0.length c0] w fun e w' => e = .returned (.bool r) ∧ Drawn0 w w' := by
  have HR0 := Aside0.mk hr0
  have HC0 := Aside0.mk hc0
  clear hr0 hc0
  have H : (tripartitelaw01_few.l0 k l0 0) = some r := h
  clear h
  have H' := Aside0.mk H
  clear H
  go_enter Try.func35, Try.ntmps35
  go_wp2
  go_loopg [3] k (fun kq v3 w' => ∃ (x3_1 : Int), v3 = .int .i64 x3_1 ∧ Aside0 (tripartitelaw01_few.l0 kq l0 x3_1 = some r) ∧ Aside0 (kq ≤ k) ∧ Drawn0 w w')
  case atStart => exact ⟨(0), (by first | rfl | (simp; done) | (simp [*]; done)), H', ⟨Nat.le_refl _⟩, by repeat (first | exact Drawn0.refl _ | apply Drawn0.step)⟩
  case round =>
    clear H'
    obtain ⟨x3_1, rfl, HA, HK1, ⟨m1, rfl⟩⟩ := hrel
    cases gk with
    | zero => exact absurd HA.out (by simp [tripartitelaw01_few.l0])
    | succ k1 =>
      have H := HA.out
      clear HA
      simp only [tripartitelaw01_few.l0] at H
      by_cases c2 : x3_1 < (l0.length : Int)
      · rw [if_pos c2] at H
        have c2b0 : decide (x3_1 < (l0.length : Int)) = true := decide_eq_true c2
        clear c2
        by_cases c3 : 0 ≤ x3_1
        · rw [if_pos c3] at H
          have c3b0 : decide (0 ≤ x3_1) = true := decide_eq_true c3
          clear c3
          by_cases c4 : ((rdOf ByteArray.empty l0 x3_1).size : Int) > 400
          · rw [if_pos c4] at H
            have c4b0 : decide (400 < ((rdOf ByteArray.empty l0 x3_1).size : Int)) = true := decide_eq_true c4
            have c4b1 : decide (400 < (rdOf ByteArray.empty l0 x3_1).size) = true := decide_eq_true (by omega)
            clear c4
            obtain rfl := Option.some.inj H
            have p293 : 0 ≤ (x3_1 : Int) := of_decide_eq_true (by first | (with_reducible assumption) | assumption)
            have q293 : x3_1 < (l0.length : Int) := of_decide_eq_true (by first | (with_reducible assumption) | assumption)
            obtain ⟨ad293, e293, hx293_0⟩ := Kd.at_string HR0.out x3_1 p293 q293
            cases e293
            replace p293 := eq_true p293
            replace q293 := eq_true q293
            go_wp2
            go_ret
            exact ⟨by first | rfl | (simp; done) | (simp [*]; done), by repeat (first | exact Drawn0.refl _ | apply Drawn0.step)⟩
          · rw [if_neg c4] at H
            have c4b0 : decide (400 < ((rdOf ByteArray.empty l0 x3_1).size : Int)) = false := decide_eq_false c4
            have c4b1 : decide (400 < (rdOf ByteArray.empty l0 x3_1).size) = false := decide_eq_false (by omega)
            clear c4
            have H' := Aside0.mk H
            clear H
            have p293 : 0 ≤ (x3_1 : Int) := of_decide_eq_true (by first | (with_reducible assumption) | assumption)
            have q293 : x3_1 < (l0.length : Int) := of_decide_eq_true (by first | (with_reducible assumption) | assumption)
            obtain ⟨ad293, e293, hx293_0⟩ := Kd.at_string HR0.out x3_1 p293 q293
            cases e293
            replace p293 := eq_true p293
            replace q293 := eq_true q293
            go_wp2
            go_roundg k1
            case measure => have := HK1.out; omega
            case rel => exact ⟨(wrap64 (x3_1 + 1)), (by first | rfl | (simp; done) | (simp [*]; done)), H', ⟨by have := HK1.out; omega⟩, by repeat (first | exact Drawn0.refl _ | apply Drawn0.step)⟩
        · rw [if_neg c3] at H
          exact absurd H (by simp)
      · rw [if_neg c2] at H
        have c2b0 : decide (x3_1 < (l0.length : Int)) = false := decide_eq_false c2
        clear c2
        obtain rfl := Option.some.inj H
        go_wp2
        go_ret
        exact ⟨by first | rfl | (simp; done) | (simp [*]; done), by repeat (first | exact Drawn0.refl _ | apply Drawn0.step)⟩
end Go.Proofs.Ytfiamddinkokbaa.F
end

section
set_option linter.unusedVariables false
set_option linter.unusedSimpArgs false
namespace Go.Proofs.Ytfiamddinkokbaa.F
open Go.RowKit Go.Proofs.YtfiamddinkokbaaW.PrintWords Go.Proofs.YtfiamddinkokbaaW.PrintLast Go.Proofs.YtfiamddinkokbaaW.PrintMore
attribute [local go_sem] max2_int min2_int max_two min_two max_three min_three max_four min_four
set_option linter.unusedVariables false
set_option linter.unusedSimpArgs false
def tripartiteref01_Join.l0 : Nat → List ByteArray → ByteArray → Int → Option (ByteArray)
  | 0, _, _, _ => none
  | k + 1, x0, x3, x4 => if x4 < (x0.length : Int) then (if 0 ≤ x4 then (if x3.size + (rdOf ByteArray.empty x0 x4).size ≤ 9223372036854775807 then (tripartiteref01_Join.l0 k x0 (x3 ++ (rdOf ByteArray.empty x0 x4)) (wrap64 (x4 + 1))) else (none)) else (none)) else (some x3)
def tripartiteref01_Join.f (k : Nat) (l0 : List ByteArray) : Option (ByteArray) := tripartiteref01_Join.l0 k l0 (⟨#[]⟩ : ByteArray) 0
theorem tripartiteref01_Join.mono_l : ∀ k, (∀ y0 y1 y2, LeO (tripartiteref01_Join.l0 k y0 y1 y2) (tripartiteref01_Join.l0 (k + 1) y0 y1 y2))
  | 0 => fun _ _ _ r h => by simp [tripartiteref01_Join.l0] at h
  | k + 1 => by
    have ih0 := tripartiteref01_Join.mono_l k
    · intro y0 y1 y2
      unfold tripartiteref01_Join.l0
      repeat' first
      | (with_reducible exact ih0 _ _ _)
      | (with_reducible exact LeO.refl _)
      | (with_reducible exact LeO.none _)
      | (with_reducible refine LeO.ite ?_ ?_)
      | (with_reducible refine LeO.bind ?_ (fun _ => ?_))
      | exact ih0 _ _ _
      | exact LeO.none _
      | refine LeO.ite ?_ ?_
      | refine LeO.bind ?_ (fun _ => ?_)
theorem tripartiteref01_Join.mono : ∀ a0 k, LeO (tripartiteref01_Join.f k a0) (tripartiteref01_Join.f (k + 1) a0) := by
  intro a0 k
  have ih0 := tripartiteref01_Join.mono_l k
  unfold tripartiteref01_Join.f
  repeat' first
      | (with_reducible exact ih0 _ _ _)
      | (with_reducible exact LeO.refl _)
      | (with_reducible exact LeO.none _)
      | (with_reducible refine LeO.ite ?_ ?_)
      | (with_reducible refine LeO.bind ?_ (fun _ => ?_))
      | exact ih0 _ _ _
      | exact LeO.none _
      | refine LeO.ite ?_ ?_
      | refine LeO.bind ?_ (fun _ => ?_)
set_option maxHeartbeats 8000000 in
set_option maxRecDepth 100000 in
theorem tripartiteref01_Join.calls (k : Nat) (A0 : Option Addr) (c0 : Nat) (l0 : List ByteArray) (r : ByteArray) (w : World) (hr0 : Kd.C Kd.string w A0 l0.length l0) (hc0 : l0.length ≤ c0) (h : tripartiteref01_Join.f k l0 = some r) :
    Calls Try.prog 36 #[.slice A0 l0.length c0] w fun e w' => e = .returned (.string r) ∧ Drawn0 w w' := by
  have HR0 := Aside0.mk hr0
  have HC0 := Aside0.mk hc0
  clear hr0 hc0
  have H : (tripartiteref01_Join.l0 k l0 (⟨#[]⟩ : ByteArray) 0) = some r := h
  clear h
  have H' := Aside0.mk H
  clear H
  go_enter Try.func36, Try.ntmps36
  go_wp2
  go_loopg [3, 4] k (fun kq v3 v4 w' => ∃ (x3_1 : ByteArray) (x4_1 : Int), v3 = .string x3_1 ∧ v4 = .int .i64 x4_1 ∧ Aside0 (tripartiteref01_Join.l0 kq l0 x3_1 x4_1 = some r) ∧ Aside0 (kq ≤ k) ∧ Drawn0 w w')
  case atStart => exact ⟨((⟨#[]⟩ : ByteArray)), (0), (by first | rfl | (simp; done) | (simp [*]; done)), (by first | rfl | (simp; done) | (simp [*]; done)), H', ⟨Nat.le_refl _⟩, by repeat (first | exact Drawn0.refl _ | apply Drawn0.step)⟩
  case round =>
    clear H'
    obtain ⟨x3_1, x4_1, rfl, rfl, HA, HK1, ⟨m1, rfl⟩⟩ := hrel
    cases gk with
    | zero => exact absurd HA.out (by simp [tripartiteref01_Join.l0])
    | succ k1 =>
      have H := HA.out
      clear HA
      simp only [tripartiteref01_Join.l0] at H
      by_cases c2 : x4_1 < (l0.length : Int)
      · rw [if_pos c2] at H
        have c2b0 : decide (x4_1 < (l0.length : Int)) = true := decide_eq_true c2
        clear c2
        by_cases c3 : 0 ≤ x4_1
        · rw [if_pos c3] at H
          have c3b0 : decide (0 ≤ x4_1) = true := decide_eq_true c3
          clear c3
          by_cases c4 : x3_1.size + (rdOf ByteArray.empty l0 x4_1).size ≤ 9223372036854775807
          · rw [if_pos c4] at H
            have c4b0 := eq_true c4
            have c4b1 : decide (x3_1.size + (rdOf ByteArray.empty l0 x4_1).size ≤ 9223372036854775807) = true := decide_eq_true c4
            try have c4b2 : (9223372036854775807 < x3_1.size + (rdOf ByteArray.empty l0 x4_1).size) = False := eq_false (Nat.not_lt.2 c4)
            have H' := Aside0.mk H
            clear H
            have p294 : 0 ≤ (x4_1 : Int) := of_decide_eq_true (by first | (with_reducible assumption) | assumption)
            have q294 : x4_1 < (l0.length : Int) := of_decide_eq_true (by first | (with_reducible assumption) | assumption)
            obtain ⟨ad294, e294, hx294_0⟩ := Kd.at_string HR0.out x4_1 p294 q294
            cases e294
            replace p294 := eq_true p294
            replace q294 := eq_true q294
            go_wp2
            go_roundg k1
            case measure => have := HK1.out; omega
            case rel => exact ⟨(x3_1 ++ (rdOf ByteArray.empty l0 x4_1)), (wrap64 (x4_1 + 1)), (by first | rfl | (simp; done) | (simp [*]; done)), (by first | rfl | (simp; done) | (simp [*]; done)), H', ⟨by have := HK1.out; omega⟩, by repeat (first | exact Drawn0.refl _ | apply Drawn0.step)⟩
          · rw [if_neg c4] at H
            exact absurd H (by simp)
        · rw [if_neg c3] at H
          exact absurd H (by simp)
      · rw [if_neg c2] at H
        have c2b0 : decide (x4_1 < (l0.length : Int)) = false := decide_eq_false c2
        clear c2
        obtain rfl := Option.some.inj H
        go_wp2
        go_ret
        exact ⟨by first | rfl | (simp; done) | (simp [*]; done), by repeat (first | exact Drawn0.refl _ | apply Drawn0.step)⟩
end Go.Proofs.Ytfiamddinkokbaa.F
end

section
set_option linter.unusedVariables false
set_option linter.unusedSimpArgs false
namespace Go.Proofs.Ytfiamddinkokbaa.F
open Go.RowKit Go.Proofs.YtfiamddinkokbaaW.PrintWords Go.Proofs.YtfiamddinkokbaaW.PrintLast Go.Proofs.YtfiamddinkokbaaW.PrintMore
attribute [local go_sem] max2_int min2_int max_two min_two max_three min_three max_four min_four
set_option linter.unusedVariables false
set_option linter.unusedSimpArgs false
def tripartiteref01_Split.l0 : Nat → ByteArray → List ByteArray → Int → Int → Option (List ByteArray)
  | 0, _, _, _, _ => none
  | k + 1, x0, x3, x4, x5 => if x5 < (x0.size : Int) then (if 0 ≤ x5 then (if (bt x0 x5) = 10 then (if 0 ≤ x4 then (if x4 ≤ (wrap64 (x5 + 1)) then (if (wrap64 (x5 + 1)) ≤ (x0.size : Int) then (if x3.length < 8796093022208 then (tripartiteref01_Split.l0 k x0 (x3 ++ [x0.extract (x4 : Int).toNat ((wrap64 (x5 + 1)) : Int).toNat]) (wrap64 (x5 + 1)) (wrap64 (x5 + 1))) else (none)) else (none)) else (none)) else (none)) else (if (wrap64 (x5 + 1)) = (x0.size : Int) then (if 0 ≤ x4 then (if x4 ≤ (wrap64 (x5 + 1)) then (if (wrap64 (x5 + 1)) ≤ (x0.size : Int) then (if x3.length < 8796093022208 then (tripartiteref01_Split.l0 k x0 (x3 ++ [x0.extract (x4 : Int).toNat ((wrap64 (x5 + 1)) : Int).toNat]) (wrap64 (x5 + 1)) (wrap64 (x5 + 1))) else (none)) else (none)) else (none)) else (none)) else (tripartiteref01_Split.l0 k x0 x3 x4 (wrap64 (x5 + 1))))) else (none)) else (some x3)
def tripartiteref01_Split.f (k : Nat) (a0 : ByteArray) : Option (List ByteArray) := tripartiteref01_Split.l0 k a0 ([] : List ByteArray) 0 0
theorem tripartiteref01_Split.mono_l : ∀ k, (∀ y0 y1 y2 y3, LeO (tripartiteref01_Split.l0 k y0 y1 y2 y3) (tripartiteref01_Split.l0 (k + 1) y0 y1 y2 y3))
  | 0 => fun _ _ _ _ r h => by simp [tripartiteref01_Split.l0] at h
  | k + 1 => by
    have ih0 := tripartiteref01_Split.mono_l k
    · intro y0 y1 y2 y3
      unfold tripartiteref01_Split.l0
      repeat' first
      | (with_reducible exact ih0 _ _ _ _)
      | (with_reducible exact LeO.refl _)
      | (with_reducible exact LeO.none _)
      | (with_reducible refine LeO.ite ?_ ?_)
      | (with_reducible refine LeO.bind ?_ (fun _ => ?_))
      | exact ih0 _ _ _ _
      | exact LeO.none _
      | refine LeO.ite ?_ ?_
      | refine LeO.bind ?_ (fun _ => ?_)
theorem tripartiteref01_Split.mono : ∀ a0 k, LeO (tripartiteref01_Split.f k a0) (tripartiteref01_Split.f (k + 1) a0) := by
  intro a0 k
  have ih0 := tripartiteref01_Split.mono_l k
  unfold tripartiteref01_Split.f
  repeat' first
      | (with_reducible exact ih0 _ _ _ _)
      | (with_reducible exact LeO.refl _)
      | (with_reducible exact LeO.none _)
      | (with_reducible refine LeO.ite ?_ ?_)
      | (with_reducible refine LeO.bind ?_ (fun _ => ?_))
      | exact ih0 _ _ _ _
      | exact LeO.none _
      | refine LeO.ite ?_ ?_
      | refine LeO.bind ?_ (fun _ => ?_)
set_option maxHeartbeats 8000000 in
set_option maxRecDepth 100000 in
theorem tripartiteref01_Split.calls (k : Nat) (a0 : ByteArray) (r : List ByteArray) (w : World) (h : tripartiteref01_Split.f k a0 = some r) :
    Calls Try.prog 32 #[.string a0] w fun e w' => ∃ v0_ : Value, e = .returned (v0_) ∧ Kd.R Kd.string 9 w' w.heap.size (fun _ => True) v0_ r ∧ Below w.heap.size w w' := by
  have HB := Aside0.mk (Below.refl w.heap.size w)
  have H : (tripartiteref01_Split.l0 k a0 ([] : List ByteArray) 0 0) = some r := h
  clear h
  have H' := Aside0.mk H
  clear H
  go_enter Try.func32, Try.ntmps32
  go_wp2
  go_loopg [3, 4, 5] k (fun kq v3 v4 v5 w' => ∃ (x3_1 : List ByteArray) (x4_1 : Int) (x5_1 : Int), v4 = .int .i64 x4_1 ∧ v5 = .int .i64 x5_1 ∧ Aside0 (tripartiteref01_Split.l0 kq a0 x3_1 x4_1 x5_1 = some r) ∧ Aside0 (kq ≤ k) ∧ Aside0 (Kd.R Kd.string 9 w' w.heap.size (fun _ => True) v3 x3_1) ∧ Aside0 (Below w.heap.size w w'))
  case atStart => exact ⟨(([] : List ByteArray)), (0), (0), (by first | rfl | (simp; done) | (simp [*]; done)), (by first | rfl | (simp; done) | (simp [*]; done)), H', ⟨Nat.le_refl _⟩, ⟨by first | exact Kd.R_nil _ _ _ _ _ | exact Kd.N_nil _ _ _ _ _ | exact Kd.V_nil _ _ _ _ _ | exact Kd.Q_nil _ _ _ _ _ | exact Kd.S_nil _ _ _ _ _⟩, ⟨by repeat (first | (with_reducible first | exact HB.out | apply below_alloc | apply pw_below_drewN | apply below_drew1) | exact HB.out)⟩⟩
  case round =>
    clear H'
    obtain ⟨x3_1, x4_1, x5_1, rfl, rfl, HA, HK1, HO_3, HB⟩ := hrel
    cases gk with
    | zero => exact absurd HA.out (by simp [tripartiteref01_Split.l0])
    | succ k1 =>
      have H := HA.out
      clear HA
      simp only [tripartiteref01_Split.l0] at H
      by_cases c2 : x5_1 < (a0.size : Int)
      · rw [if_pos c2] at H
        have c2b0 : decide (x5_1 < (a0.size : Int)) = true := decide_eq_true c2
        clear c2
        by_cases c3 : 0 ≤ x5_1
        · rw [if_pos c3] at H
          have c3b0 : decide (0 ≤ x5_1) = true := decide_eq_true c3
          clear c3
          by_cases c5 : (bt a0 x5_1) = 10
          · rw [if_pos c5] at H
            have c5b0 : ((bt a0 x5_1) == 10) = true := beq_iff_eq.mpr c5
            have c5b1 : ((bt a0 x5_1) != 10) = false := bne_eq_false_iff_eq.mpr c5
            clear c5
            by_cases c6 : 0 ≤ x4_1
            · rw [if_pos c6] at H
              have c6b0 := eq_true c6
              have c6b1 : decide (0 ≤ x4_1) = true := decide_eq_true c6
              clear c6
              by_cases c7 : x4_1 ≤ (wrap64 (x5_1 + 1))
              · rw [if_pos c7] at H
                have c7b0 := eq_true c7
                have c7b1 : decide (x4_1 ≤ (wrap64 (x5_1 + 1))) = true := decide_eq_true c7
                by_cases c8 : (wrap64 (x5_1 + 1)) ≤ (a0.size : Int)
                · rw [if_pos c8] at H
                  have c8b0 := eq_true c8
                  have c8b1 : decide ((wrap64 (x5_1 + 1)) ≤ (a0.size : Int)) = true := decide_eq_true c8
                  by_cases c9 : x3_1.length < 8796093022208
                  · rw [if_pos c9] at H
                    have LMc9 := Aside0.mk c9
                    clear c9
                    obtain ⟨y168, hy168⟩ : ∃ y_ : List ByteArray, y_ = (x3_1 ++ [a0.extract (x4_1 : Int).toNat ((wrap64 (x5_1 + 1)) : Int).toNat]) := ⟨_, rfl⟩
                    replace H : (tripartiteref01_Split.l0 k1 a0 y168 (wrap64 (x5_1 + 1)) (wrap64 (x5_1 + 1))) = some r := by first | (rw [hy168]; with_reducible exact H) | (have H2_ := (Option.bind_some _ _).symm.trans H; rw [hy168]; with_reducible exact H2_) | (have H2_ := (Option.bind_some _ _).symm.trans H; with_reducible exact H2_) | with_reducible exact H | (rw [hy168]; exact H) | exact H
                    have Ny168 := Aside0.mk hy168
                    clear hy168
                    have H' := Aside0.mk H
                    clear H
                    have p4 : 0 ≤ (x5_1 : Int) := of_decide_eq_true (by first | (with_reducible assumption) | assumption)
                    have q4 : x5_1 < (a0.size : Int) := of_decide_eq_true (by first | (with_reducible assumption) | assumption)
                    have hx4 := bt_at a0 x5_1
                    replace p4 := eq_true p4
                    replace q4 := eq_true q4
                    go_wp2_with (first | ((with_reducible refine gate_builtin (b := .append) (xs := #[.tmp 23, .tmp 29]) rfl ?_); (try (refine gate_guard (by rfl) ?_; dsimp only)); at_builtin; refine Kd.R_append Kd.string (w0 := w) w.heap.size rfl (.tmp 23) (.tmp 29) 36 9 (.string ⟨#[]⟩) 16 rfl Try.underlying36 info9 rfl (by decide) (by omega) u3 x3_1 (a0.extract (x4_1 : Int).toNat ((wrap64 (x5_1 + 1)) : Int).toNat) [.string (a0.extract (x4_1 : Int).toNat ((wrap64 (x5_1 + 1)) : Int).toNat)] (fun _ => True) (fun _ => False) rfl rfl ?aP (fun _ hk => hk.elim) ?aF ?aO ?aB ?aS ?aL ?_; (case aP => exact rfl); (case aB => exact (by repeat (first | (with_reducible first | exact HB.out | apply below_alloc | apply pw_below_drewN | apply below_drew1) | exact HB.out))); (case aF => exact (fun _ _ => trivial)); (case aO => exact (by (with_reducible repeat (first | apply Kd.R_alloc | apply Kd.R_drewN | apply Kd.R_drew)); exact HO_3.out)); (case aS => exact (below_size (by repeat (first | (with_reducible first | exact HB.out | apply below_alloc | apply pw_below_drewN | apply below_drew1) | exact HB.out)))); (case aL => have := LMc9.out; omega); intro v169 w10 ho hb hg hat; rw [← Ny168.out] at ho; have n0_ := Aside0.mk (hb); have n1_ := Aside0.mk (ho); clear HB; clear HO_3; have HB := n0_; have HO170 := n1_; clear n0_ n1_; clear ho hb hg hat))
                    go_roundg k1
                    case measure => have := HK1.out; omega
                    case rel => exact ⟨(y168), (wrap64 (x5_1 + 1)), (wrap64 (x5_1 + 1)), (by first | rfl | (simp; done) | (simp [*]; done)), (by first | rfl | (simp; done) | (simp [*]; done)), H', ⟨by have := HK1.out; omega⟩, ⟨by (with_reducible repeat (first | apply Kd.R_alloc | apply Kd.R_drewN | apply Kd.R_drew)); exact HO170.out⟩, ⟨by repeat (first | (with_reducible first | exact HB.out | apply below_alloc | apply pw_below_drewN | apply below_drew1) | exact HB.out)⟩⟩
                  · rw [if_neg c9] at H
                    exact absurd H (by simp)
                · rw [if_neg c8] at H
                  exact absurd H (by simp)
              · rw [if_neg c7] at H
                exact absurd H (by simp)
            · rw [if_neg c6] at H
              exact absurd H (by simp)
          · rw [if_neg c5] at H
            have c5b0 : ((bt a0 x5_1) == 10) = false := beq_eq_false_iff_ne.mpr c5
            have c5b1 : ((bt a0 x5_1) != 10) = true := bne_iff_ne.mpr c5
            by_cases c11 : (wrap64 (x5_1 + 1)) = (a0.size : Int)
            · rw [if_pos c11] at H
              have c11b0 : ((wrap64 (x5_1 + 1)) == (a0.size : Int)) = true := beq_iff_eq.mpr c11
              have c11b1 : ((wrap64 (x5_1 + 1)) != (a0.size : Int)) = false := bne_eq_false_iff_eq.mpr c11
              clear c11
              by_cases c12 : 0 ≤ x4_1
              · rw [if_pos c12] at H
                have c12b0 := eq_true c12
                have c12b1 : decide (0 ≤ x4_1) = true := decide_eq_true c12
                clear c12
                by_cases c13 : x4_1 ≤ (wrap64 (x5_1 + 1))
                · rw [if_pos c13] at H
                  have c13b0 := eq_true c13
                  have c13b1 : decide (x4_1 ≤ (wrap64 (x5_1 + 1))) = true := decide_eq_true c13
                  by_cases c14 : (wrap64 (x5_1 + 1)) ≤ (a0.size : Int)
                  · rw [if_pos c14] at H
                    have c14b0 := eq_true c14
                    have c14b1 : decide ((wrap64 (x5_1 + 1)) ≤ (a0.size : Int)) = true := decide_eq_true c14
                    by_cases c15 : x3_1.length < 8796093022208
                    · rw [if_pos c15] at H
                      have LMc15 := Aside0.mk c15
                      clear c15
                      obtain ⟨y171, hy171⟩ : ∃ y_ : List ByteArray, y_ = (x3_1 ++ [a0.extract (x4_1 : Int).toNat ((wrap64 (x5_1 + 1)) : Int).toNat]) := ⟨_, rfl⟩
                      replace H : (tripartiteref01_Split.l0 k1 a0 y171 (wrap64 (x5_1 + 1)) (wrap64 (x5_1 + 1))) = some r := by first | (rw [hy171]; with_reducible exact H) | (have H2_ := (Option.bind_some _ _).symm.trans H; rw [hy171]; with_reducible exact H2_) | (have H2_ := (Option.bind_some _ _).symm.trans H; with_reducible exact H2_) | with_reducible exact H | (rw [hy171]; exact H) | exact H
                      have Ny171 := Aside0.mk hy171
                      clear hy171
                      have H' := Aside0.mk H
                      clear H
                      have p4 : 0 ≤ (x5_1 : Int) := of_decide_eq_true (by first | (with_reducible assumption) | assumption)
                      have q4 : x5_1 < (a0.size : Int) := of_decide_eq_true (by first | (with_reducible assumption) | assumption)
                      have hx4 := bt_at a0 x5_1
                      replace p4 := eq_true p4
                      replace q4 := eq_true q4
                      go_wp2_with (first | ((with_reducible refine gate_builtin (b := .append) (xs := #[.tmp 23, .tmp 29]) rfl ?_); (try (refine gate_guard (by rfl) ?_; dsimp only)); at_builtin; refine Kd.R_append Kd.string (w0 := w) w.heap.size rfl (.tmp 23) (.tmp 29) 36 9 (.string ⟨#[]⟩) 16 rfl Try.underlying36 info9 rfl (by decide) (by omega) u3 x3_1 (a0.extract (x4_1 : Int).toNat ((wrap64 (x5_1 + 1)) : Int).toNat) [.string (a0.extract (x4_1 : Int).toNat ((wrap64 (x5_1 + 1)) : Int).toNat)] (fun _ => True) (fun _ => False) rfl rfl ?aP (fun _ hk => hk.elim) ?aF ?aO ?aB ?aS ?aL ?_; (case aP => exact rfl); (case aB => exact (by repeat (first | (with_reducible first | exact HB.out | apply below_alloc | apply pw_below_drewN | apply below_drew1) | exact HB.out))); (case aF => exact (fun _ _ => trivial)); (case aO => exact (by (with_reducible repeat (first | apply Kd.R_alloc | apply Kd.R_drewN | apply Kd.R_drew)); exact HO_3.out)); (case aS => exact (below_size (by repeat (first | (with_reducible first | exact HB.out | apply below_alloc | apply pw_below_drewN | apply below_drew1) | exact HB.out)))); (case aL => have := LMc15.out; omega); intro v172 w16 ho hb hg hat; rw [← Ny171.out] at ho; have n0_ := Aside0.mk (hb); have n1_ := Aside0.mk (ho); clear HB; clear HO_3; have HB := n0_; have HO173 := n1_; clear n0_ n1_; clear ho hb hg hat))
                      go_roundg k1
                      case measure => have := HK1.out; omega
                      case rel => exact ⟨(y171), (wrap64 (x5_1 + 1)), (wrap64 (x5_1 + 1)), (by first | rfl | (simp; done) | (simp [*]; done)), (by first | rfl | (simp; done) | (simp [*]; done)), H', ⟨by have := HK1.out; omega⟩, ⟨by (with_reducible repeat (first | apply Kd.R_alloc | apply Kd.R_drewN | apply Kd.R_drew)); exact HO173.out⟩, ⟨by repeat (first | (with_reducible first | exact HB.out | apply below_alloc | apply pw_below_drewN | apply below_drew1) | exact HB.out)⟩⟩
                    · rw [if_neg c15] at H
                      exact absurd H (by simp)
                  · rw [if_neg c14] at H
                    exact absurd H (by simp)
                · rw [if_neg c13] at H
                  exact absurd H (by simp)
              · rw [if_neg c12] at H
                exact absurd H (by simp)
            · rw [if_neg c11] at H
              have c11b0 : ((wrap64 (x5_1 + 1)) == (a0.size : Int)) = false := beq_eq_false_iff_ne.mpr c11
              have c11b1 : ((wrap64 (x5_1 + 1)) != (a0.size : Int)) = true := bne_iff_ne.mpr c11
              have H' := Aside0.mk H
              clear H
              have p4 : 0 ≤ (x5_1 : Int) := of_decide_eq_true (by first | (with_reducible assumption) | assumption)
              have q4 : x5_1 < (a0.size : Int) := of_decide_eq_true (by first | (with_reducible assumption) | assumption)
              have hx4 := bt_at a0 x5_1
              replace p4 := eq_true p4
              replace q4 := eq_true q4
              go_wp2
              go_roundg k1
              case measure => have := HK1.out; omega
              case rel => exact ⟨(x3_1), (x4_1), (wrap64 (x5_1 + 1)), (by first | rfl | (simp; done) | (simp [*]; done)), (by first | rfl | (simp; done) | (simp [*]; done)), H', ⟨by have := HK1.out; omega⟩, ⟨by (with_reducible repeat (first | apply Kd.R_alloc | apply Kd.R_drewN | apply Kd.R_drew)); exact HO_3.out⟩, ⟨by repeat (first | (with_reducible first | exact HB.out | apply below_alloc | apply pw_below_drewN | apply below_drew1) | exact HB.out)⟩⟩
        · rw [if_neg c3] at H
          exact absurd H (by simp)
      · rw [if_neg c2] at H
        have c2b0 : decide (x5_1 < (a0.size : Int)) = false := decide_eq_false c2
        clear c2
        obtain rfl := Option.some.inj H
        go_wp2
        go_ret
        exact ⟨_, by first | rfl | (simp [errW_none, errW_some] <;> rfl) | (simp [*, errW_none, errW_some] <;> rfl), by (with_reducible repeat (first | apply Kd.R_alloc | apply Kd.R_drewN | apply Kd.R_drew)); exact HO_3.out, by repeat (first | (with_reducible first | exact HB.out | apply below_alloc | apply pw_below_drewN | apply below_drew1) | exact HB.out)⟩
end Go.Proofs.Ytfiamddinkokbaa.F
end

section
set_option linter.unusedVariables false
set_option linter.unusedSimpArgs false
namespace Go.Proofs.Ytfiamddinkokbaa.F
open Go.RowKit Go.Proofs.YtfiamddinkokbaaW.PrintWords Go.Proofs.YtfiamddinkokbaaW.PrintLast Go.Proofs.YtfiamddinkokbaaW.PrintMore
attribute [local go_sem] max2_int min2_int max_two min_two max_three min_three max_four min_four
set_option linter.unusedVariables false
set_option linter.unusedSimpArgs false
def tripartiteref01_Ends.f (a0 : ByteArray) : Option (Bool) := if (a0.size : Int) > 0 then (if 0 ≤ (wrap64 ((a0.size : Int) - 1)) then (if (wrap64 ((a0.size : Int) - 1)) < (a0.size : Int) then (some ((bt a0 (wrap64 ((a0.size : Int) - 1))) == 10)) else (none)) else (none)) else (some false)
set_option maxHeartbeats 8000000 in
set_option maxRecDepth 100000 in
theorem tripartiteref01_Ends.calls (a0 : ByteArray) (r : Bool) (w : World) (h : tripartiteref01_Ends.f a0 = some r) :
    Calls Try.prog 83 #[.string a0] w fun e w' => e = .returned (.bool r) ∧ Drawn0 w w' := by
  have H : (if (a0.size : Int) > 0 then (if 0 ≤ (wrap64 ((a0.size : Int) - 1)) then (if (wrap64 ((a0.size : Int) - 1)) < (a0.size : Int) then (some ((bt a0 (wrap64 ((a0.size : Int) - 1))) == 10)) else (none)) else (none)) else (some false)) = some r := h
  clear h
  by_cases c2 : (a0.size : Int) > 0
  · rw [if_pos c2] at H
    have c2b0 : decide (0 < (a0.size : Int)) = true := decide_eq_true c2
    have c2b1 : decide (0 < a0.size) = true := decide_eq_true (by omega)
    clear c2
    obtain ⟨ji3, hji3⟩ : ∃ j_ : Int, (wrap64 ((a0.size : Int) - 1)) = j_ := ⟨_, rfl⟩
    replace H : (if 0 ≤ (ji3) then (if (ji3) < (a0.size : Int) then (some ((bt a0 (ji3)) == 10)) else (none)) else (none)) = some r := by first | (rw [hji3] at H; exact H) | (simp only [hji3] at H ⊢; exact H)
    have hji3w : (IntKind.i64.wrap ((a0.size : Int) - 1)) = ji3 := (i64_w _).trans hji3
    by_cases c4 : 0 ≤ (ji3)
    · rw [if_pos c4] at H
      have c4b0 : decide (0 ≤ (ji3)) = true := decide_eq_true c4
      clear c4
      by_cases c5 : (ji3) < (a0.size : Int)
      · rw [if_pos c5] at H
        have c5b0 : decide ((ji3) < (a0.size : Int)) = true := decide_eq_true c5
        clear c5
        obtain rfl := Option.some.inj H
        have p6 : 0 ≤ ((ji3) : Int) := of_decide_eq_true (by first | (with_reducible assumption) | assumption)
        have q6 : (ji3) < (a0.size : Int) := of_decide_eq_true (by first | (with_reducible assumption) | assumption)
        have hx6 := bt_at a0 (ji3)
        replace p6 := eq_true p6
        replace q6 := eq_true q6
        go_enter Try.func83, Try.ntmps83
        go_wp2
        go_ret
        exact ⟨by first | rfl | (simp; done) | (simp only [← hji3] <;> (first | rfl | simp)) | (simp [*]; done), by repeat (first | exact Drawn0.refl _ | apply Drawn0.step)⟩
      · rw [if_neg c5] at H
        exact absurd H (by simp)
    · rw [if_neg c4] at H
      exact absurd H (by simp)
  · rw [if_neg c2] at H
    have c2b0 : decide (0 < (a0.size : Int)) = false := decide_eq_false c2
    have c2b1 : decide (0 < a0.size) = false := decide_eq_false (by omega)
    clear c2
    obtain rfl := Option.some.inj H
    go_enter Try.func83, Try.ntmps83
    go_wp2
    go_ret
    exact ⟨by first | rfl | (simp; done) | (simp [*]; done), by repeat (first | exact Drawn0.refl _ | apply Drawn0.step)⟩
end Go.Proofs.Ytfiamddinkokbaa.F
end

section
set_option linter.unusedVariables false
set_option linter.unusedSimpArgs false
namespace Go.Proofs.Ytfiamddinkokbaa.F
open Go.RowKit Go.Proofs.YtfiamddinkokbaaW.PrintWords Go.Proofs.YtfiamddinkokbaaW.PrintLast Go.Proofs.YtfiamddinkokbaaW.PrintMore
attribute [local go_sem] max2_int min2_int max_two min_two max_three min_three max_four min_four
set_option linter.unusedVariables false
set_option linter.unusedSimpArgs false
def tripartiteref01_Whole.l0 : Nat → List ByteArray → Int → Option (Bool)
  | 0, _, _ => none
  | k + 1, x0, x3 => if x3 < (x0.length : Int) then (if 0 ≤ x3 then ((tripartiteref01_Split.f k (rdOf ByteArray.empty x0 x3)).bind fun t296 => (if (t296.length : Int) = 1 then (if (wrap64 (x3 + 1)) < (x0.length : Int) then ((tripartiteref01_Ends.f (rdOf ByteArray.empty x0 x3)).bind fun t300 => (if t300 = true then (tripartiteref01_Whole.l0 k x0 (wrap64 (x3 + 1))) else (some false))) else (tripartiteref01_Whole.l0 k x0 (wrap64 (x3 + 1)))) else (some false))) else (none)) else (some true)
def tripartiteref01_Whole.f (k : Nat) (l0 : List ByteArray) : Option (Bool) := tripartiteref01_Whole.l0 k l0 0
theorem tripartiteref01_Whole.mono_l : ∀ k, (∀ y0 y1, LeO (tripartiteref01_Whole.l0 k y0 y1) (tripartiteref01_Whole.l0 (k + 1) y0 y1))
  | 0 => fun _ _ r h => by simp [tripartiteref01_Whole.l0] at h
  | k + 1 => by
    have ih0 := tripartiteref01_Whole.mono_l k
    · intro y0 y1
      unfold tripartiteref01_Whole.l0
      repeat' first
      | (with_reducible exact ih0 _ _)
      | (with_reducible exact tripartiteref01_Split.mono _ _)
      | (with_reducible exact LeO.refl _)
      | (with_reducible exact LeO.none _)
      | (with_reducible refine LeO.ite ?_ ?_)
      | (with_reducible refine LeO.bind ?_ (fun _ => ?_))
      | exact ih0 _ _
      | exact tripartiteref01_Split.mono _ _
      | exact LeO.none _
      | refine LeO.ite ?_ ?_
      | refine LeO.bind ?_ (fun _ => ?_)
theorem tripartiteref01_Whole.mono : ∀ a0 k, LeO (tripartiteref01_Whole.f k a0) (tripartiteref01_Whole.f (k + 1) a0) := by
  intro a0 k
  have ih0 := tripartiteref01_Whole.mono_l k
  unfold tripartiteref01_Whole.f
  repeat' first
      | (with_reducible exact ih0 _ _)
      | (with_reducible exact tripartiteref01_Split.mono _ _)
      | (with_reducible exact LeO.refl _)
      | (with_reducible exact LeO.none _)
      | (with_reducible refine LeO.ite ?_ ?_)
      | (with_reducible refine LeO.bind ?_ (fun _ => ?_))
      | exact ih0 _ _
      | exact tripartiteref01_Split.mono _ _
      | exact LeO.none _
      | refine LeO.ite ?_ ?_
      | refine LeO.bind ?_ (fun _ => ?_)
set_option maxHeartbeats 8000000 in
set_option maxRecDepth 100000 in
theorem tripartiteref01_Whole.calls (k : Nat) (A0 : Option Addr) (c0 : Nat) (l0 : List ByteArray) (r : Bool) (w : World) (hr0 : Kd.C Kd.string w A0 l0.length l0) (hc0 : l0.length ≤ c0) (h : tripartiteref01_Whole.f k l0 = some r) :
    Calls Try.prog 37 #[.slice A0 l0.length c0] w fun e w' => e = .returned (.bool r) ∧ Below w.heap.size w w' := by
  have HR0 := Aside0.mk hr0
  have HC0 := Aside0.mk hc0
  clear hr0 hc0
  have HB := Aside0.mk (Below.refl w.heap.size w)
  have H : (tripartiteref01_Whole.l0 k l0 0) = some r := h
  clear h
  have H' := Aside0.mk H
  clear H
  go_enter Try.func37, Try.ntmps37
  go_wp2
  go_loopg [3] k (fun kq v3 w' => ∃ (x3_1 : Int), v3 = .int .i64 x3_1 ∧ Aside0 (tripartiteref01_Whole.l0 kq l0 x3_1 = some r) ∧ Aside0 (kq ≤ k) ∧ Aside0 (Below w.heap.size w w'))
  case atStart => exact ⟨(0), (by first | rfl | (simp; done) | (simp [*]; done)), H', ⟨Nat.le_refl _⟩, ⟨by repeat (first | (with_reducible first | exact HB.out | apply below_alloc | apply pw_below_drewN | apply below_drew1) | exact HB.out)⟩⟩
  case round =>
    clear H'
    obtain ⟨x3_1, rfl, HA, HK1, HB⟩ := hrel
    cases gk with
    | zero => exact absurd HA.out (by simp [tripartiteref01_Whole.l0])
    | succ k1 =>
      have H := HA.out
      clear HA
      simp only [tripartiteref01_Whole.l0] at H
      by_cases c2 : x3_1 < (l0.length : Int)
      · rw [if_pos c2] at H
        have c2b0 : decide (x3_1 < (l0.length : Int)) = true := decide_eq_true c2
        clear c2
        by_cases c3 : 0 ≤ x3_1
        · rw [if_pos c3] at H
          have c3b0 : decide (0 ≤ x3_1) = true := decide_eq_true c3
          clear c3
          replace H := Option.bind_eq_some_iff.mp H
          obtain ⟨t296, A40, H⟩ := H
          replace H : (if (t296.length : Int) = 1 then (if (wrap64 (x3_1 + 1)) < (l0.length : Int) then ((tripartiteref01_Ends.f (rdOf ByteArray.empty l0 x3_1)).bind fun t300 => (if t300 = true then (tripartiteref01_Whole.l0 k1 l0 (wrap64 (x3_1 + 1))) else (some false))) else (tripartiteref01_Whole.l0 k1 l0 (wrap64 (x3_1 + 1)))) else (some false)) = some r := H
          have A4 := Aside0.mk A40
          clear A40
          by_cases c5 : (t296.length : Int) = 1
          · rw [if_pos c5] at H
            have c5b0 : ((t296.length : Int) == 1) = true := beq_iff_eq.mpr c5
            have c5b1 : ((t296.length : Int) != 1) = false := bne_eq_false_iff_eq.mpr c5
            clear c5
            by_cases c6 : (wrap64 (x3_1 + 1)) < (l0.length : Int)
            · rw [if_pos c6] at H
              have c6b0 : decide ((wrap64 (x3_1 + 1)) < (l0.length : Int)) = true := decide_eq_true c6
              clear c6
              replace H := Option.bind_eq_some_iff.mp H
              obtain ⟨t300, A70, H⟩ := H
              replace H : (if t300 = true then (tripartiteref01_Whole.l0 k1 l0 (wrap64 (x3_1 + 1))) else (some false)) = some r := H
              have A7 := Aside0.mk A70
              clear A70
              by_cases c8 : t300 = true
              · subst c8
                have H1 : (tripartiteref01_Whole.l0 k1 l0 (wrap64 (x3_1 + 1))) = some r := by rw [if_pos rfl] at H; exact H
                clear H
                have H := H1
                clear H1
                have H' := Aside0.mk H
                clear H
                have p295 : 0 ≤ (x3_1 : Int) := of_decide_eq_true (by first | (with_reducible assumption) | assumption)
                have q295 : x3_1 < (l0.length : Int) := of_decide_eq_true (by first | (with_reducible assumption) | assumption)
                obtain ⟨ad295, e295, hx295_0⟩ := Kd.at_string HR0.out x3_1 p295 q295
                cases e295
                replace hx295_0 := (HB.out.cell (World.block_lt_of_cell? w _ hx295_0)).trans hx295_0
                replace p295 := eq_true p295
                replace q295 := eq_true q295
                go_wp2_with (first | ((with_reducible refine gate_callee (f := 32) rfl ?_); refine goesL_ (some 14) rfl rfl Try.func32 (by kernel_rfl) rfl #[.string (rdOf ByteArray.empty l0 x3_1)] rfl (by (try simp only [List.map_toArray, List.map_cons, List.map_nil]); first | done | rfl | (simp only [List.length_drop, List.length_take]; rfl)) ?_; (with_reducible refine (tripartiteref01_Split.calls k1 (rdOf ByteArray.empty l0 x3_1) t296 _ A4.out).mono ?_); rintro e w9 ⟨v297, rfl, ho0, hb⟩; refine ⟨_, rfl, ?_⟩; have n0_ := Aside0.mk (Kd.R_lower ho0 (below_size (by repeat (first | (with_reducible first | exact HB.out | apply below_alloc | apply pw_below_drewN | apply below_drew1) | exact HB.out)))); have n1_ := Aside0.mk (below_step (by repeat (first | (with_reducible first | exact HB.out | apply below_alloc | apply pw_below_drewN | apply below_drew1) | exact HB.out)) hb); clear HB; have HO298 := n0_; have HB := n1_; clear n0_ n1_; (try clear hb); (try clear hb2); (try clear hk); (try clear hi); (try clear ho0); obtain ⟨Ao10, co10, eo10⟩ := Kd.R_slice HO298.out; subst eo10; have p299 : 0 ≤ (x3_1 : Int) := of_decide_eq_true (by first | (with_reducible assumption) | assumption); have q299 : x3_1 < (l0.length : Int) := of_decide_eq_true (by first | (with_reducible assumption) | assumption); obtain ⟨ad299, e299, hx299_0⟩ := Kd.at_string HR0.out x3_1 p299 q299; obtain rfl : ad295 = ad299 := (by injection e299); replace hx299_0 := (HB.out.cell (World.block_lt_of_cell? w _ hx299_0)).trans hx299_0; replace p299 := eq_true p299; replace q299 := eq_true q299) | (go_at_call 83; (with_reducible refine (tripartiteref01_Ends.calls (rdOf ByteArray.empty l0 x3_1) true _ A7.out).mono ?_); rintro e w' ⟨rfl, ⟨nd, rfl⟩⟩))
                go_roundg k1
                case measure => have := HK1.out; omega
                case rel => exact ⟨(wrap64 (x3_1 + 1)), (by first | rfl | (simp; done) | (simp [*]; done)), H', ⟨by have := HK1.out; omega⟩, ⟨by repeat (first | (with_reducible first | exact HB.out | apply below_alloc | apply pw_below_drewN | apply below_drew1) | exact HB.out)⟩⟩
              · replace c8 := Bool.eq_false_iff.mpr c8
                subst c8
                have H1 : (some false) = some r := by rw [if_neg (show ¬ (false = true) by decide)] at H; exact H
                clear H
                have H := H1
                clear H1
                obtain rfl := Option.some.inj H
                have p295 : 0 ≤ (x3_1 : Int) := of_decide_eq_true (by first | (with_reducible assumption) | assumption)
                have q295 : x3_1 < (l0.length : Int) := of_decide_eq_true (by first | (with_reducible assumption) | assumption)
                obtain ⟨ad295, e295, hx295_0⟩ := Kd.at_string HR0.out x3_1 p295 q295
                cases e295
                replace hx295_0 := (HB.out.cell (World.block_lt_of_cell? w _ hx295_0)).trans hx295_0
                replace p295 := eq_true p295
                replace q295 := eq_true q295
                go_wp2_with (first | ((with_reducible refine gate_callee (f := 32) rfl ?_); refine goesL_ (some 14) rfl rfl Try.func32 (by kernel_rfl) rfl #[.string (rdOf ByteArray.empty l0 x3_1)] rfl (by (try simp only [List.map_toArray, List.map_cons, List.map_nil]); first | done | rfl | (simp only [List.length_drop, List.length_take]; rfl)) ?_; (with_reducible refine (tripartiteref01_Split.calls k1 (rdOf ByteArray.empty l0 x3_1) t296 _ A4.out).mono ?_); rintro e w11 ⟨v297, rfl, ho0, hb⟩; refine ⟨_, rfl, ?_⟩; have n0_ := Aside0.mk (Kd.R_lower ho0 (below_size (by repeat (first | (with_reducible first | exact HB.out | apply below_alloc | apply pw_below_drewN | apply below_drew1) | exact HB.out)))); have n1_ := Aside0.mk (below_step (by repeat (first | (with_reducible first | exact HB.out | apply below_alloc | apply pw_below_drewN | apply below_drew1) | exact HB.out)) hb); clear HB; have HO298 := n0_; have HB := n1_; clear n0_ n1_; (try clear hb); (try clear hb2); (try clear hk); (try clear hi); (try clear ho0); obtain ⟨Ao12, co12, eo12⟩ := Kd.R_slice HO298.out; subst eo12; have p299 : 0 ≤ (x3_1 : Int) := of_decide_eq_true (by first | (with_reducible assumption) | assumption); have q299 : x3_1 < (l0.length : Int) := of_decide_eq_true (by first | (with_reducible assumption) | assumption); obtain ⟨ad299, e299, hx299_0⟩ := Kd.at_string HR0.out x3_1 p299 q299; obtain rfl : ad295 = ad299 := (by injection e299); replace hx299_0 := (HB.out.cell (World.block_lt_of_cell? w _ hx299_0)).trans hx299_0; replace p299 := eq_true p299; replace q299 := eq_true q299) | (go_at_call 83; (with_reducible refine (tripartiteref01_Ends.calls (rdOf ByteArray.empty l0 x3_1) false _ A7.out).mono ?_); rintro e w' ⟨rfl, ⟨nd, rfl⟩⟩))
                go_ret
                exact ⟨by first | rfl | (simp [errW_none, errW_some] <;> rfl) | (simp [*, errW_none, errW_some] <;> rfl), by repeat (first | (with_reducible first | exact HB.out | apply below_alloc | apply pw_below_drewN | apply below_drew1) | exact HB.out)⟩
            · rw [if_neg c6] at H
              have c6b0 : decide ((wrap64 (x3_1 + 1)) < (l0.length : Int)) = false := decide_eq_false c6
              clear c6
              have H' := Aside0.mk H
              clear H
              have p295 : 0 ≤ (x3_1 : Int) := of_decide_eq_true (by first | (with_reducible assumption) | assumption)
              have q295 : x3_1 < (l0.length : Int) := of_decide_eq_true (by first | (with_reducible assumption) | assumption)
              obtain ⟨ad295, e295, hx295_0⟩ := Kd.at_string HR0.out x3_1 p295 q295
              cases e295
              replace hx295_0 := (HB.out.cell (World.block_lt_of_cell? w _ hx295_0)).trans hx295_0
              replace p295 := eq_true p295
              replace q295 := eq_true q295
              go_wp2_with (first | ((with_reducible refine gate_callee (f := 32) rfl ?_); refine goesL_ (some 14) rfl rfl Try.func32 (by kernel_rfl) rfl #[.string (rdOf ByteArray.empty l0 x3_1)] rfl (by (try simp only [List.map_toArray, List.map_cons, List.map_nil]); first | done | rfl | (simp only [List.length_drop, List.length_take]; rfl)) ?_; (with_reducible refine (tripartiteref01_Split.calls k1 (rdOf ByteArray.empty l0 x3_1) t296 _ A4.out).mono ?_); rintro e w13 ⟨v297, rfl, ho0, hb⟩; refine ⟨_, rfl, ?_⟩; have n0_ := Aside0.mk (Kd.R_lower ho0 (below_size (by repeat (first | (with_reducible first | exact HB.out | apply below_alloc | apply pw_below_drewN | apply below_drew1) | exact HB.out)))); have n1_ := Aside0.mk (below_step (by repeat (first | (with_reducible first | exact HB.out | apply below_alloc | apply pw_below_drewN | apply below_drew1) | exact HB.out)) hb); clear HB; have HO298 := n0_; have HB := n1_; clear n0_ n1_; (try clear hb); (try clear hb2); (try clear hk); (try clear hi); (try clear ho0); obtain ⟨Ao14, co14, eo14⟩ := Kd.R_slice HO298.out; subst eo14))
              go_roundg k1
              case measure => have := HK1.out; omega
              case rel => exact ⟨(wrap64 (x3_1 + 1)), (by first | rfl | (simp; done) | (simp [*]; done)), H', ⟨by have := HK1.out; omega⟩, ⟨by repeat (first | (with_reducible first | exact HB.out | apply below_alloc | apply pw_below_drewN | apply below_drew1) | exact HB.out)⟩⟩
          · rw [if_neg c5] at H
            have c5b0 : ((t296.length : Int) == 1) = false := beq_eq_false_iff_ne.mpr c5
            have c5b1 : ((t296.length : Int) != 1) = true := bne_iff_ne.mpr c5
            obtain rfl := Option.some.inj H
            have p295 : 0 ≤ (x3_1 : Int) := of_decide_eq_true (by first | (with_reducible assumption) | assumption)
            have q295 : x3_1 < (l0.length : Int) := of_decide_eq_true (by first | (with_reducible assumption) | assumption)
            obtain ⟨ad295, e295, hx295_0⟩ := Kd.at_string HR0.out x3_1 p295 q295
            cases e295
            replace hx295_0 := (HB.out.cell (World.block_lt_of_cell? w _ hx295_0)).trans hx295_0
            replace p295 := eq_true p295
            replace q295 := eq_true q295
            go_wp2_with (first | ((with_reducible refine gate_callee (f := 32) rfl ?_); refine goesL_ (some 14) rfl rfl Try.func32 (by kernel_rfl) rfl #[.string (rdOf ByteArray.empty l0 x3_1)] rfl (by (try simp only [List.map_toArray, List.map_cons, List.map_nil]); first | done | rfl | (simp only [List.length_drop, List.length_take]; rfl)) ?_; (with_reducible refine (tripartiteref01_Split.calls k1 (rdOf ByteArray.empty l0 x3_1) t296 _ A4.out).mono ?_); rintro e w15 ⟨v297, rfl, ho0, hb⟩; refine ⟨_, rfl, ?_⟩; have n0_ := Aside0.mk (Kd.R_lower ho0 (below_size (by repeat (first | (with_reducible first | exact HB.out | apply below_alloc | apply pw_below_drewN | apply below_drew1) | exact HB.out)))); have n1_ := Aside0.mk (below_step (by repeat (first | (with_reducible first | exact HB.out | apply below_alloc | apply pw_below_drewN | apply below_drew1) | exact HB.out)) hb); clear HB; have HO298 := n0_; have HB := n1_; clear n0_ n1_; (try clear hb); (try clear hb2); (try clear hk); (try clear hi); (try clear ho0); obtain ⟨Ao16, co16, eo16⟩ := Kd.R_slice HO298.out; subst eo16))
            go_ret
            exact ⟨by first | rfl | (simp [errW_none, errW_some] <;> rfl) | (simp [*, errW_none, errW_some] <;> rfl), by repeat (first | (with_reducible first | exact HB.out | apply below_alloc | apply pw_below_drewN | apply below_drew1) | exact HB.out)⟩
        · rw [if_neg c3] at H
          exact absurd H (by simp)
      · rw [if_neg c2] at H
        have c2b0 : decide (x3_1 < (l0.length : Int)) = false := decide_eq_false c2
        clear c2
        obtain rfl := Option.some.inj H
        go_wp2
        go_ret
        exact ⟨by first | rfl | (simp [errW_none, errW_some] <;> rfl) | (simp [*, errW_none, errW_some] <;> rfl), by repeat (first | (with_reducible first | exact HB.out | apply below_alloc | apply pw_below_drewN | apply below_drew1) | exact HB.out)⟩
end Go.Proofs.Ytfiamddinkokbaa.F
end

section
set_option linter.unusedVariables false
set_option linter.unusedSimpArgs false
namespace Go.Proofs.Ytfiamddinkokbaa.F
open Go.RowKit Go.Proofs.YtfiamddinkokbaaW.PrintWords Go.Proofs.YtfiamddinkokbaaW.PrintLast Go.Proofs.YtfiamddinkokbaaW.PrintMore
attribute [local go_sem] max2_int min2_int max_two min_two max_three min_three max_four min_four
set_option linter.unusedVariables false
set_option linter.unusedSimpArgs false
def tripartitelaw01_LinesJoins.j0 : Nat → List ByteArray → ByteArray → Bool → Option (Bool)
  | 0, _, _, _ => none
  | k + 1, x0, x3, x24 => if x24 = true then (some false) else ((tripartiteref01_Whole.f k x0).bind fun t308 => (if t308 = true then ((lines_Split.f x3).bind fun t309 => ((tripartiteref01_Same.f k t309 x0).bind fun t312 => (some t312))) else (some true)))
def tripartitelaw01_LinesJoins.f (k : Nat) (l0 : List ByteArray) : Option (Bool) := (tripartitelaw01_few.f k l0).bind fun t301 => (if t301 = true then ((lines_Join.f l0).bind fun t303 => ((tripartitelaw01_told.f).bind fun t304 => (if t304 = true then ((tripartiteref01_Join.f k l0).bind fun t305 => (if t303.toList = t305.toList then ((lines_Whole.f k l0).bind fun t306 => ((tripartiteref01_Whole.f k l0).bind fun t307 => (tripartitelaw01_LinesJoins.j0 k l0 t303 (t306 != t307)))) else (tripartitelaw01_LinesJoins.j0 k l0 t303 true))) else (tripartitelaw01_LinesJoins.j0 k l0 t303 true)))) else ((tripartitelaw01_told.f).bind fun t302 => (some t302)))
theorem tripartitelaw01_LinesJoins.mono_l : ∀ k, (∀ y0 y1 y2, LeO (tripartitelaw01_LinesJoins.j0 k y0 y1 y2) (tripartitelaw01_LinesJoins.j0 (k + 1) y0 y1 y2))
  | 0 => fun _ _ _ r h => by simp [tripartitelaw01_LinesJoins.j0] at h
  | k + 1 => by
    have ih0 := tripartitelaw01_LinesJoins.mono_l k
    · intro y0 y1 y2
      unfold tripartitelaw01_LinesJoins.j0
      repeat' first
      | (with_reducible exact ih0 _ _ _)
      | (with_reducible exact lines_Whole.mono _ _)
      | (with_reducible exact tripartitelaw01_few.mono _ _)
      | (with_reducible exact tripartiteref01_Join.mono _ _)
      | (with_reducible exact tripartiteref01_Same.mono _ _ _)
      | (with_reducible exact tripartiteref01_Whole.mono _ _)
      | (with_reducible exact LeO.refl _)
      | (with_reducible exact LeO.none _)
      | (with_reducible refine LeO.ite ?_ ?_)
      | (with_reducible refine LeO.bind ?_ (fun _ => ?_))
      | exact ih0 _ _ _
      | exact lines_Whole.mono _ _
      | exact tripartitelaw01_few.mono _ _
      | exact tripartiteref01_Join.mono _ _
      | exact tripartiteref01_Same.mono _ _ _
      | exact tripartiteref01_Whole.mono _ _
      | exact LeO.none _
      | refine LeO.ite ?_ ?_
      | refine LeO.bind ?_ (fun _ => ?_)
theorem tripartitelaw01_LinesJoins.mono : ∀ a0 k, LeO (tripartitelaw01_LinesJoins.f k a0) (tripartitelaw01_LinesJoins.f (k + 1) a0) := by
  intro a0 k
  have ih0 := tripartitelaw01_LinesJoins.mono_l k
  unfold tripartitelaw01_LinesJoins.f
  repeat' first
      | (with_reducible exact ih0 _ _ _)
      | (with_reducible exact lines_Whole.mono _ _)
      | (with_reducible exact tripartitelaw01_few.mono _ _)
      | (with_reducible exact tripartiteref01_Join.mono _ _)
      | (with_reducible exact tripartiteref01_Same.mono _ _ _)
      | (with_reducible exact tripartiteref01_Whole.mono _ _)
      | (with_reducible exact LeO.refl _)
      | (with_reducible exact LeO.none _)
      | (with_reducible refine LeO.ite ?_ ?_)
      | (with_reducible refine LeO.bind ?_ (fun _ => ?_))
      | exact ih0 _ _ _
      | exact lines_Whole.mono _ _
      | exact tripartitelaw01_few.mono _ _
      | exact tripartiteref01_Join.mono _ _
      | exact tripartiteref01_Same.mono _ _ _
      | exact tripartiteref01_Whole.mono _ _
      | exact LeO.none _
      | refine LeO.ite ?_ ?_
      | refine LeO.bind ?_ (fun _ => ?_)
set_option maxHeartbeats 8000000 in
set_option maxRecDepth 100000 in
theorem tripartitelaw01_LinesJoins.calls (k : Nat) (A0 : Option Addr) (c0 : Nat) (l0 : List ByteArray) (r : Bool) (w : World) (hr0 : Kd.C Kd.string w A0 l0.length l0) (hc0 : l0.length ≤ c0) (h : tripartitelaw01_LinesJoins.f k l0 = some r) :
    Calls Try.prog 6 #[.slice A0 l0.length c0] w fun e w' => e = .returned (.bool r) ∧ Below w.heap.size w w' := by
  have HR0 := Aside0.mk hr0
  have HC0 := Aside0.mk hc0
  clear hr0 hc0
  have HB := Aside0.mk (Below.refl w.heap.size w)
  have H : ((tripartitelaw01_few.f k l0).bind fun t301 => (if t301 = true then ((lines_Join.f l0).bind fun t303 => ((tripartitelaw01_told.f).bind fun t304 => (if t304 = true then ((tripartiteref01_Join.f k l0).bind fun t305 => (if t303.toList = t305.toList then ((lines_Whole.f k l0).bind fun t306 => ((tripartiteref01_Whole.f k l0).bind fun t307 => (tripartitelaw01_LinesJoins.j0 k l0 t303 (t306 != t307)))) else (tripartitelaw01_LinesJoins.j0 k l0 t303 true))) else (tripartitelaw01_LinesJoins.j0 k l0 t303 true)))) else ((tripartitelaw01_told.f).bind fun t302 => (some t302)))) = some r := h
  clear h
  replace H := Option.bind_eq_some_iff.mp H
  obtain ⟨t301, A20, H⟩ := H
  replace H : (if t301 = true then ((lines_Join.f l0).bind fun t303 => ((tripartitelaw01_told.f).bind fun t304 => (if t304 = true then ((tripartiteref01_Join.f k l0).bind fun t305 => (if t303.toList = t305.toList then ((lines_Whole.f k l0).bind fun t306 => ((tripartiteref01_Whole.f k l0).bind fun t307 => (tripartitelaw01_LinesJoins.j0 k l0 t303 (t306 != t307)))) else (tripartitelaw01_LinesJoins.j0 k l0 t303 true))) else (tripartitelaw01_LinesJoins.j0 k l0 t303 true)))) else ((tripartitelaw01_told.f).bind fun t302 => (some t302))) = some r := H
  have A2 := Aside0.mk A20
  clear A20
  by_cases c3 : t301 = true
  · subst c3
    have H1 : ((lines_Join.f l0).bind fun t303 => ((tripartitelaw01_told.f).bind fun t304 => (if t304 = true then ((tripartiteref01_Join.f k l0).bind fun t305 => (if t303.toList = t305.toList then ((lines_Whole.f k l0).bind fun t306 => ((tripartiteref01_Whole.f k l0).bind fun t307 => (tripartitelaw01_LinesJoins.j0 k l0 t303 (t306 != t307)))) else (tripartitelaw01_LinesJoins.j0 k l0 t303 true))) else (tripartitelaw01_LinesJoins.j0 k l0 t303 true)))) = some r := by rw [if_pos rfl] at H; exact H
    clear H
    have H := H1
    clear H1
    replace H := Option.bind_eq_some_iff.mp H
    obtain ⟨t303, A40, H⟩ := H
    replace H : ((tripartitelaw01_told.f).bind fun t304 => (if t304 = true then ((tripartiteref01_Join.f k l0).bind fun t305 => (if t303.toList = t305.toList then ((lines_Whole.f k l0).bind fun t306 => ((tripartiteref01_Whole.f k l0).bind fun t307 => (tripartitelaw01_LinesJoins.j0 k l0 t303 (t306 != t307)))) else (tripartitelaw01_LinesJoins.j0 k l0 t303 true))) else (tripartitelaw01_LinesJoins.j0 k l0 t303 true))) = some r := H
    have A4 := Aside0.mk A40
    clear A40
    have HC5 := Aside0.mk H
    clear H
    go_enter Try.func6, Try.ntmps6
    go_upto_region 4 with (first | ((with_reducible refine gate_callee (f := 35) rfl ?_); refine goesL_ (some 5) rfl rfl Try.func35 (by kernel_rfl) rfl #[.slice A0 l0.length c0] rfl (by (try simp only [List.map_toArray, List.map_cons, List.map_nil]); first | done | rfl | (simp only [List.length_drop, List.length_take]; rfl)) ?_; (with_reducible refine (tripartitelaw01_few.calls k _ _ l0 true _ ?side1 ?side2 A2.out).mono ?_); (case side1 => repeat (first | exact HR0.out | (with_reducible refine Kd.C_alloc ?_ _) | (with_reducible refine Kd.C_drewN ?_ _) | (with_reducible refine Kd.C_drew ?_))); (case side2 => exact HC0.out); rintro e w' ⟨rfl, ⟨nd, rfl⟩⟩; refine ⟨_, rfl, ?_⟩) | ((with_reducible refine gate_callee (f := 33) rfl ?_); refine goesL_ (some 9) rfl rfl Try.func33 (by kernel_rfl) rfl #[.slice A0 l0.length c0] rfl (by (try simp only [List.map_toArray, List.map_cons, List.map_nil]); first | done | rfl | (simp only [List.length_drop, List.length_take]; rfl)) ?_; (with_reducible refine (lines_Join.calls _ _ l0 t303 _ ?side1 ?side2 A4.out).mono ?_); (case side1 => repeat (first | exact HR0.out | (with_reducible refine Kd.C_alloc ?_ _) | (with_reducible refine Kd.C_drewN ?_ _) | (with_reducible refine Kd.C_drew ?_))); (case side2 => exact HC0.out); rintro e w6 ⟨rfl, hb⟩; refine ⟨_, rfl, ?_⟩; have n0_ := Aside0.mk (below_step (by repeat (first | (with_reducible first | exact HB.out | apply below_alloc | apply pw_below_drewN | apply below_drew1) | exact HB.out)) hb); clear HB; have HB := n0_; clear n0_; (try clear hb); (try clear hb2); (try clear hk); (try clear hi)))
    (try simp only [Act.put, List.setIfInBounds_toArray, List.set_cons_zero, List.set_cons_succ])
    go_cut [24] (fun v24 wc => ∃ (kq : Nat) (x24_4 : Bool), v24 = .bool x24_4 ∧ Aside0 (tripartitelaw01_LinesJoins.j0 kq l0 t303 x24_4 = some r) ∧ Aside0 (kq ≤ k) ∧ Aside0 (Below w.heap.size w wc))
    case first =>
      have H := HC5.out
      clear HC5
      replace H := Option.bind_eq_some_iff.mp H
      obtain ⟨t304, A70, H⟩ := H
      replace H : (if t304 = true then ((tripartiteref01_Join.f k l0).bind fun t305 => (if t303.toList = t305.toList then ((lines_Whole.f k l0).bind fun t306 => ((tripartiteref01_Whole.f k l0).bind fun t307 => (tripartitelaw01_LinesJoins.j0 k l0 t303 (t306 != t307)))) else (tripartitelaw01_LinesJoins.j0 k l0 t303 true))) else (tripartitelaw01_LinesJoins.j0 k l0 t303 true)) = some r := H
      have A7 := Aside0.mk A70
      clear A70
      by_cases c8 : t304 = true
      · subst c8
        have H1 : ((tripartiteref01_Join.f k l0).bind fun t305 => (if t303.toList = t305.toList then ((lines_Whole.f k l0).bind fun t306 => ((tripartiteref01_Whole.f k l0).bind fun t307 => (tripartitelaw01_LinesJoins.j0 k l0 t303 (t306 != t307)))) else (tripartitelaw01_LinesJoins.j0 k l0 t303 true))) = some r := by rw [if_pos rfl] at H; exact H
        clear H
        have H := H1
        clear H1
        replace H := Option.bind_eq_some_iff.mp H
        obtain ⟨t305, A90, H⟩ := H
        replace H : (if t303.toList = t305.toList then ((lines_Whole.f k l0).bind fun t306 => ((tripartiteref01_Whole.f k l0).bind fun t307 => (tripartitelaw01_LinesJoins.j0 k l0 t303 (t306 != t307)))) else (tripartitelaw01_LinesJoins.j0 k l0 t303 true)) = some r := H
        have A9 := Aside0.mk A90
        clear A90
        by_cases c10 : t303.toList = t305.toList
        · rw [if_pos c10] at H
          have c10b0 : (t303.toList == t305.toList) = true := beq_iff_eq.mpr c10
          have c10b1 : (t303.toList != t305.toList) = false := bne_eq_false_iff_eq.mpr c10
          clear c10
          (first | rw [c10b0] | (simp only [i64_w, i32_w]; rw [c10b0]) | skip)
          replace H := Option.bind_eq_some_iff.mp H
          obtain ⟨t306, A110, H⟩ := H
          replace H : ((tripartiteref01_Whole.f k l0).bind fun t307 => (tripartitelaw01_LinesJoins.j0 k l0 t303 (t306 != t307))) = some r := H
          have A11 := Aside0.mk A110
          clear A110
          replace H := Option.bind_eq_some_iff.mp H
          obtain ⟨t307, A120, H⟩ := H
          replace H : (tripartitelaw01_LinesJoins.j0 k l0 t303 (t306 != t307)) = some r := H
          have A12 := Aside0.mk A120
          clear A120
          have H' := Aside0.mk H
          clear H
          go_wp2_with (first | ((with_reducible refine gate_callee (f := 30) rfl ?_); refine goesL_ (some 10) rfl rfl Try.func30 (by kernel_rfl) rfl #[] rfl (by (try simp only [List.map_toArray, List.map_cons, List.map_nil]); first | done | rfl | (simp only [List.length_drop, List.length_take]; rfl)) ?_; (with_reducible refine (tripartitelaw01_told.calls  true _ A7.out).mono ?_); rintro e w13 ⟨rfl, hb⟩; refine ⟨_, rfl, ?_⟩; have n0_ := Aside0.mk (below_step (by repeat (first | (with_reducible first | exact HB.out | apply below_alloc | apply pw_below_drewN | apply below_drew1) | exact HB.out)) hb); clear HB; have HB := n0_; clear n0_; (try clear hb); (try clear hb2); (try clear hk); (try clear hi)) | (go_at_call 36; (with_reducible refine (tripartiteref01_Join.calls k _ _ l0 t305 _ ?side1 ?side2 A9.out).mono ?_); (case side1 => repeat (first | exact (Kd.C_below HR0.out HB.out) | (with_reducible refine Kd.C_alloc ?_ _) | (with_reducible refine Kd.C_drewN ?_ _) | (with_reducible refine Kd.C_drew ?_))); (case side2 => exact HC0.out); rintro e w' ⟨rfl, ⟨nd, rfl⟩⟩) | (go_at_call 34; (with_reducible refine (lines_Whole.calls k _ _ l0 t306 _ ?side1 ?side2 A11.out).mono ?_); (case side1 => repeat (first | exact (Kd.C_below HR0.out (by repeat (first | (with_reducible first | exact HB.out | apply below_alloc | apply pw_below_drewN | apply below_drew1) | exact HB.out))) | (with_reducible refine Kd.C_alloc ?_ _) | (with_reducible refine Kd.C_drewN ?_ _) | (with_reducible refine Kd.C_drew ?_))); (case side2 => exact HC0.out); rintro e w' ⟨rfl, ⟨nd, rfl⟩⟩) | (go_at_call 37; (with_reducible refine (tripartiteref01_Whole.calls k _ _ l0 t307 _ ?side1 ?side2 A12.out).mono ?_); (case side1 => repeat (first | exact (Kd.C_below HR0.out (by repeat (first | (with_reducible first | exact HB.out | apply below_alloc | apply pw_below_drewN | apply below_drew1) | exact HB.out))) | (with_reducible refine Kd.C_alloc ?_ _) | (with_reducible refine Kd.C_drewN ?_ _) | (with_reducible refine Kd.C_drew ?_))); (case side2 => exact HC0.out); rintro e w14 ⟨rfl, hb⟩; have n0_ := Aside0.mk (below_step (by repeat (first | (with_reducible first | exact HB.out | apply below_alloc | apply pw_below_drewN | apply below_drew1) | exact HB.out)) hb); clear HB; have HB := n0_; clear n0_; (try clear hb); (try clear hb2); (try clear hk); (try clear hi)))
          go_meet
          case rel => exact ⟨_, ((t306 != t307)), (by first | rfl | (simp; done) | (simp [*]; done)), H', ⟨by first | omega | exact Nat.le_refl _⟩, ⟨by repeat (first | (with_reducible first | exact HB.out | apply below_alloc | apply pw_below_drewN | apply below_drew1) | exact HB.out)⟩⟩
        · rw [if_neg c10] at H
          have c10b0 : (t303.toList == t305.toList) = false := beq_eq_false_iff_ne.mpr c10
          have c10b1 : (t303.toList != t305.toList) = true := bne_iff_ne.mpr c10
          (first | rw [c10b0] | (simp only [i64_w, i32_w]; rw [c10b0]) | skip)
          have H' := Aside0.mk H
          clear H
          go_wp2_with (first | ((with_reducible refine gate_callee (f := 30) rfl ?_); refine goesL_ (some 10) rfl rfl Try.func30 (by kernel_rfl) rfl #[] rfl (by (try simp only [List.map_toArray, List.map_cons, List.map_nil]); first | done | rfl | (simp only [List.length_drop, List.length_take]; rfl)) ?_; (with_reducible refine (tripartitelaw01_told.calls  true _ A7.out).mono ?_); rintro e w15 ⟨rfl, hb⟩; refine ⟨_, rfl, ?_⟩; have n0_ := Aside0.mk (below_step (by repeat (first | (with_reducible first | exact HB.out | apply below_alloc | apply pw_below_drewN | apply below_drew1) | exact HB.out)) hb); clear HB; have HB := n0_; clear n0_; (try clear hb); (try clear hb2); (try clear hk); (try clear hi)) | (go_at_call 36; (with_reducible refine (tripartiteref01_Join.calls k _ _ l0 t305 _ ?side1 ?side2 A9.out).mono ?_); (case side1 => repeat (first | exact (Kd.C_below HR0.out HB.out) | (with_reducible refine Kd.C_alloc ?_ _) | (with_reducible refine Kd.C_drewN ?_ _) | (with_reducible refine Kd.C_drew ?_))); (case side2 => exact HC0.out); rintro e w' ⟨rfl, ⟨nd, rfl⟩⟩))
          go_meet
          case rel => exact ⟨_, (true), (by first | rfl | (simp; done) | (simp [*]; done)), H', ⟨by first | omega | exact Nat.le_refl _⟩, ⟨by repeat (first | (with_reducible first | exact HB.out | apply below_alloc | apply pw_below_drewN | apply below_drew1) | exact HB.out)⟩⟩
      · replace c8 := Bool.eq_false_iff.mpr c8
        subst c8
        have H1 : (tripartitelaw01_LinesJoins.j0 k l0 t303 true) = some r := by rw [if_neg (show ¬ (false = true) by decide)] at H; exact H
        clear H
        have H := H1
        clear H1
        have H' := Aside0.mk H
        clear H
        go_wp2_with (first | ((with_reducible refine gate_callee (f := 30) rfl ?_); refine goesL_ (some 10) rfl rfl Try.func30 (by kernel_rfl) rfl #[] rfl (by (try simp only [List.map_toArray, List.map_cons, List.map_nil]); first | done | rfl | (simp only [List.length_drop, List.length_take]; rfl)) ?_; (with_reducible refine (tripartitelaw01_told.calls  false _ A7.out).mono ?_); rintro e w16 ⟨rfl, hb⟩; refine ⟨_, rfl, ?_⟩; have n0_ := Aside0.mk (below_step (by repeat (first | (with_reducible first | exact HB.out | apply below_alloc | apply pw_below_drewN | apply below_drew1) | exact HB.out)) hb); clear HB; have HB := n0_; clear n0_; (try clear hb); (try clear hb2); (try clear hk); (try clear hi)))
        go_meet
        case rel => exact ⟨_, (true), (by first | rfl | (simp; done) | (simp [*]; done)), H', ⟨by first | omega | exact Nat.le_refl _⟩, ⟨by repeat (first | (with_reducible first | exact HB.out | apply below_alloc | apply pw_below_drewN | apply below_drew1) | exact HB.out)⟩⟩
    case rest =>
      clear HC5
      try clear c1
      try clear p2
      try clear c3
      try clear c6
      try clear c8
      try clear c10
      try clear c10b0
      try clear c10b1
      obtain ⟨kq, x24_4, rfl, HA, HJ4, HB⟩ := hcut
      cases kq with
      | zero => exact absurd HA.out (by simp [tripartitelaw01_LinesJoins.j0])
      | succ kj4 =>
        have H := HA.out
        clear HA
        simp only [tripartitelaw01_LinesJoins.j0] at H
        by_cases c17 : x24_4 = true
        · subst c17
          have H1 : (some false) = some r := by rw [if_pos rfl] at H; exact H
          clear H
          have H := H1
          clear H1
          obtain rfl := Option.some.inj H
          go_wp2
          go_ret
          exact ⟨by first | rfl | (simp [errW_none, errW_some] <;> rfl) | (simp [*, errW_none, errW_some] <;> rfl), by repeat (first | (with_reducible first | exact HB.out | apply below_alloc | apply pw_below_drewN | apply below_drew1) | exact HB.out)⟩
        · replace c17 := Bool.eq_false_iff.mpr c17
          subst c17
          have H1 : ((tripartiteref01_Whole.f kj4 l0).bind fun t308 => (if t308 = true then ((lines_Split.f t303).bind fun t309 => ((tripartiteref01_Same.f kj4 t309 l0).bind fun t312 => (some t312))) else (some true))) = some r := by rw [if_neg (show ¬ (false = true) by decide)] at H; exact H
          clear H
          have H := H1
          clear H1
          replace H := Option.bind_eq_some_iff.mp H
          obtain ⟨t308, A180, H⟩ := H
          replace H : (if t308 = true then ((lines_Split.f t303).bind fun t309 => ((tripartiteref01_Same.f kj4 t309 l0).bind fun t312 => (some t312))) else (some true)) = some r := H
          have A18 := Aside0.mk A180
          clear A180
          by_cases c19 : t308 = true
          · subst c19
            have H1 : ((lines_Split.f t303).bind fun t309 => ((tripartiteref01_Same.f kj4 t309 l0).bind fun t312 => (some t312))) = some r := by rw [if_pos rfl] at H; exact H
            clear H
            have H := H1
            clear H1
            replace H := Option.bind_eq_some_iff.mp H
            obtain ⟨t309, A200, H⟩ := H
            replace H : ((tripartiteref01_Same.f kj4 t309 l0).bind fun t312 => (some t312)) = some r := H
            have A20 := Aside0.mk A200
            clear A200
            replace H := Option.bind_eq_some_iff.mp H
            obtain ⟨t312, A210, H⟩ := H
            replace H : (some t312) = some r := H
            have A21 := Aside0.mk A210
            clear A210
            obtain rfl := Option.some.inj H
            go_wp2_with (first | ((with_reducible refine gate_callee (f := 37) rfl ?_); refine goesL_ (some 26) rfl rfl Try.func37 (by kernel_rfl) rfl #[.slice A0 l0.length c0] rfl (by (try simp only [List.map_toArray, List.map_cons, List.map_nil]); first | done | rfl | (simp only [List.length_drop, List.length_take]; rfl)) ?_; (with_reducible refine (tripartiteref01_Whole.calls kj4 _ _ l0 true _ ?side1 ?side2 A18.out).mono ?_); (case side1 => repeat (first | exact (Kd.C_below HR0.out HB.out) | (with_reducible refine Kd.C_alloc ?_ _) | (with_reducible refine Kd.C_drewN ?_ _) | (with_reducible refine Kd.C_drew ?_))); (case side2 => exact HC0.out); rintro e w22 ⟨rfl, hb⟩; refine ⟨_, rfl, ?_⟩; have n0_ := Aside0.mk (below_step (by repeat (first | (with_reducible first | exact HB.out | apply below_alloc | apply pw_below_drewN | apply below_drew1) | exact HB.out)) hb); clear HB; have HB := n0_; clear n0_; (try clear hb); (try clear hb2); (try clear hk); (try clear hi)) | (go_at_call 29; (with_reducible refine (lines_Split.calls t303 t309 _ A20.out).mono ?_); rintro e w23 ⟨v310, rfl, ho0, hb⟩; have n0_ := Aside0.mk (Kd.R_lower ho0 (below_size (by repeat (first | (with_reducible first | exact HB.out | apply below_alloc | apply pw_below_drewN | apply below_drew1) | exact HB.out)))); have n1_ := Aside0.mk (below_step (by repeat (first | (with_reducible first | exact HB.out | apply below_alloc | apply pw_below_drewN | apply below_drew1) | exact HB.out)) hb); clear HB; have HO311 := n0_; have HB := n1_; clear n0_ n1_; (try clear hb); (try clear hb2); (try clear hk); (try clear hi); (try clear ho0); obtain ⟨Ao24, co24, eo24⟩ := Kd.R_slice HO311.out; subst eo24) | (go_at_call 31; (with_reducible refine (tripartiteref01_Same.calls kj4 _ _ t309 _ _ l0 t312 _ ?side1 ?side2 ?side3 ?side4 A21.out).mono ?_); (case side1 => repeat (first | exact (Kd.R_reads' HO311.out).2.2 | (with_reducible refine Kd.C_alloc ?_ _) | (with_reducible refine Kd.C_drewN ?_ _) | (with_reducible refine Kd.C_drew ?_))); (case side2 => exact (Kd.R_reads' HO311.out).2.1); (case side3 => repeat (first | exact (Kd.C_below HR0.out HB.out) | (with_reducible refine Kd.C_alloc ?_ _) | (with_reducible refine Kd.C_drewN ?_ _) | (with_reducible refine Kd.C_drew ?_))); (case side4 => exact HC0.out); rintro e w' ⟨rfl, ⟨nd, rfl⟩⟩))
            go_ret
            exact ⟨by first | rfl | (simp [errW_none, errW_some] <;> rfl) | (simp [*, errW_none, errW_some] <;> rfl), by repeat (first | (with_reducible first | exact HB.out | apply below_alloc | apply pw_below_drewN | apply below_drew1) | exact HB.out)⟩
          · replace c19 := Bool.eq_false_iff.mpr c19
            subst c19
            have H1 : (some true) = some r := by rw [if_neg (show ¬ (false = true) by decide)] at H; exact H
            clear H
            have H := H1
            clear H1
            obtain rfl := Option.some.inj H
            go_wp2_with (first | ((with_reducible refine gate_callee (f := 37) rfl ?_); refine goesL_ (some 26) rfl rfl Try.func37 (by kernel_rfl) rfl #[.slice A0 l0.length c0] rfl (by (try simp only [List.map_toArray, List.map_cons, List.map_nil]); first | done | rfl | (simp only [List.length_drop, List.length_take]; rfl)) ?_; (with_reducible refine (tripartiteref01_Whole.calls kj4 _ _ l0 false _ ?side1 ?side2 A18.out).mono ?_); (case side1 => repeat (first | exact (Kd.C_below HR0.out HB.out) | (with_reducible refine Kd.C_alloc ?_ _) | (with_reducible refine Kd.C_drewN ?_ _) | (with_reducible refine Kd.C_drew ?_))); (case side2 => exact HC0.out); rintro e w25 ⟨rfl, hb⟩; refine ⟨_, rfl, ?_⟩; have n0_ := Aside0.mk (below_step (by repeat (first | (with_reducible first | exact HB.out | apply below_alloc | apply pw_below_drewN | apply below_drew1) | exact HB.out)) hb); clear HB; have HB := n0_; clear n0_; (try clear hb); (try clear hb2); (try clear hk); (try clear hi)))
            go_ret
            exact ⟨by first | rfl | (simp [errW_none, errW_some] <;> rfl) | (simp [*, errW_none, errW_some] <;> rfl), by repeat (first | (with_reducible first | exact HB.out | apply below_alloc | apply pw_below_drewN | apply below_drew1) | exact HB.out)⟩
  · replace c3 := Bool.eq_false_iff.mpr c3
    subst c3
    have H1 : ((tripartitelaw01_told.f).bind fun t302 => (some t302)) = some r := by rw [if_neg (show ¬ (false = true) by decide)] at H; exact H
    clear H
    have H := H1
    clear H1
    replace H := Option.bind_eq_some_iff.mp H
    obtain ⟨t302, A260, H⟩ := H
    replace H : (some t302) = some r := H
    have A26 := Aside0.mk A260
    clear A260
    obtain rfl := Option.some.inj H
    go_enter Try.func6, Try.ntmps6
    go_wp2_with (first | ((with_reducible refine gate_callee (f := 35) rfl ?_); refine goesL_ (some 5) rfl rfl Try.func35 (by kernel_rfl) rfl #[.slice A0 l0.length c0] rfl (by (try simp only [List.map_toArray, List.map_cons, List.map_nil]); first | done | rfl | (simp only [List.length_drop, List.length_take]; rfl)) ?_; (with_reducible refine (tripartitelaw01_few.calls k _ _ l0 false _ ?side1 ?side2 A2.out).mono ?_); (case side1 => repeat (first | exact HR0.out | (with_reducible refine Kd.C_alloc ?_ _) | (with_reducible refine Kd.C_drewN ?_ _) | (with_reducible refine Kd.C_drew ?_))); (case side2 => exact HC0.out); rintro e w' ⟨rfl, ⟨nd, rfl⟩⟩; refine ⟨_, rfl, ?_⟩) | ((with_reducible refine gate_callee (f := 30) rfl ?_); refine goesL_ (some 7) rfl rfl Try.func30 (by kernel_rfl) rfl #[] rfl (by (try simp only [List.map_toArray, List.map_cons, List.map_nil]); first | done | rfl | (simp only [List.length_drop, List.length_take]; rfl)) ?_; (with_reducible refine (tripartitelaw01_told.calls  t302 _ A26.out).mono ?_); rintro e w27 ⟨rfl, hb⟩; refine ⟨_, rfl, ?_⟩; have n0_ := Aside0.mk (below_step (by repeat (first | (with_reducible first | exact HB.out | apply below_alloc | apply pw_below_drewN | apply below_drew1) | exact HB.out)) hb); clear HB; have HB := n0_; clear n0_; (try clear hb); (try clear hb2); (try clear hk); (try clear hi)))
    go_ret
    exact ⟨by first | rfl | (simp [errW_none, errW_some] <;> rfl) | (simp [*, errW_none, errW_some] <;> rfl), by repeat (first | (with_reducible first | exact HB.out | apply below_alloc | apply pw_below_drewN | apply below_drew1) | exact HB.out)⟩
end Go.Proofs.Ytfiamddinkokbaa.F
end

section
set_option linter.unusedVariables false
set_option linter.unusedSimpArgs false
namespace Go.Proofs.Ytfiamddinkokbaa.F
open Go.RowKit Go.Proofs.YtfiamddinkokbaaW.PrintWords Go.Proofs.YtfiamddinkokbaaW.PrintLast Go.Proofs.YtfiamddinkokbaaW.PrintMore
attribute [local go_sem] max2_int min2_int max_two min_two max_three min_three max_four min_four
set_option linter.unusedVariables false
set_option linter.unusedSimpArgs false
mutual
def tripartiteref01_Run.j0 : Nat → ByteArray → Bool → Option (Int)
  | 0, _, _ => none
  | k + 1, x0, x25 => if x25 = true then (some 0) else (tripartiteref01_Run.l0 k x0 0)
def tripartiteref01_Run.l0 : Nat → ByteArray → Int → Option (Int)
  | 0, _, _ => none
  | k + 1, x0, x3 => if x3 < (x0.size : Int) then (if 0 ≤ x3 then (if 0 < (x0.size : Int) then (if (bt x0 x3) = (bt x0 0) then (tripartiteref01_Run.l0 k x0 (wrap64 (x3 + 1))) else (some x3)) else (none)) else (none)) else (some x3)
end
def tripartiteref01_Run.f (k : Nat) (a0 : ByteArray) : Option (Int) := if a0.toList = ([] : List UInt8) then (tripartiteref01_Run.j0 k a0 true) else (if 0 < (a0.size : Int) then (if (bt a0 0) = 60 then (tripartiteref01_Run.j0 k a0 false) else (if (bt a0 0) = 124 then (tripartiteref01_Run.j0 k a0 false) else (if (bt a0 0) = 61 then (tripartiteref01_Run.j0 k a0 false) else (tripartiteref01_Run.j0 k a0 ((bt a0 0) != 62))))) else (none))
theorem tripartiteref01_Run.mono_l : ∀ k, (∀ y0 y1, LeO (tripartiteref01_Run.j0 k y0 y1) (tripartiteref01_Run.j0 (k + 1) y0 y1)) ∧ (∀ y0 y1, LeO (tripartiteref01_Run.l0 k y0 y1) (tripartiteref01_Run.l0 (k + 1) y0 y1))
  | 0 => ⟨fun _ _ r h => by simp [tripartiteref01_Run.j0] at h, fun _ _ r h => by simp [tripartiteref01_Run.l0] at h⟩
  | k + 1 => by
    obtain ⟨ih0, ih1⟩ := tripartiteref01_Run.mono_l k
    refine ⟨?_, ?_⟩
    · intro y0 y1
      unfold tripartiteref01_Run.j0
      repeat' first
      | (with_reducible exact ih0 _ _)
      | (with_reducible exact ih1 _ _)
      | (with_reducible exact LeO.refl _)
      | (with_reducible exact LeO.none _)
      | (with_reducible refine LeO.ite ?_ ?_)
      | (with_reducible refine LeO.bind ?_ (fun _ => ?_))
      | exact ih0 _ _
      | exact ih1 _ _
      | exact LeO.none _
      | refine LeO.ite ?_ ?_
      | refine LeO.bind ?_ (fun _ => ?_)
    · intro y0 y1
      unfold tripartiteref01_Run.l0
      repeat' first
      | (with_reducible exact ih0 _ _)
      | (with_reducible exact ih1 _ _)
      | (with_reducible exact LeO.refl _)
      | (with_reducible exact LeO.none _)
      | (with_reducible refine LeO.ite ?_ ?_)
      | (with_reducible refine LeO.bind ?_ (fun _ => ?_))
      | exact ih0 _ _
      | exact ih1 _ _
      | exact LeO.none _
      | refine LeO.ite ?_ ?_
      | refine LeO.bind ?_ (fun _ => ?_)
theorem tripartiteref01_Run.mono : ∀ a0 k, LeO (tripartiteref01_Run.f k a0) (tripartiteref01_Run.f (k + 1) a0) := by
  intro a0 k
  obtain ⟨ih0, ih1⟩ := tripartiteref01_Run.mono_l k
  unfold tripartiteref01_Run.f
  repeat' first
      | (with_reducible exact ih0 _ _)
      | (with_reducible exact ih1 _ _)
      | (with_reducible exact LeO.refl _)
      | (with_reducible exact LeO.none _)
      | (with_reducible refine LeO.ite ?_ ?_)
      | (with_reducible refine LeO.bind ?_ (fun _ => ?_))
      | exact ih0 _ _
      | exact ih1 _ _
      | exact LeO.none _
      | refine LeO.ite ?_ ?_
      | refine LeO.bind ?_ (fun _ => ?_)
set_option maxHeartbeats 8000000 in
set_option maxRecDepth 100000 in
theorem tripartiteref01_Run.calls (k : Nat) (a0 : ByteArray) (r : Int) (w : World) (h : tripartiteref01_Run.f k a0 = some r) :
    Calls Try.prog 44 #[.string a0] w fun e w' => e = .returned (.int .i64 r) ∧ Drawn0 w w' := by
  have H : (if a0.toList = ([] : List UInt8) then (tripartiteref01_Run.j0 k a0 true) else (if 0 < (a0.size : Int) then (if (bt a0 0) = 60 then (tripartiteref01_Run.j0 k a0 false) else (if (bt a0 0) = 124 then (tripartiteref01_Run.j0 k a0 false) else (if (bt a0 0) = 61 then (tripartiteref01_Run.j0 k a0 false) else (tripartiteref01_Run.j0 k a0 ((bt a0 0) != 62))))) else (none))) = some r := h
  clear h
  have HC2 := Aside0.mk H
  clear H
  go_enter Try.func44, Try.ntmps44
  go_upto_region 1 with (fail)
  repeat (go_quiet (fail); go_upto_region 1 with (fail))
  go_cut [25] (fun v25 wc => ∃ (kq : Nat) (x25_1 : Bool), v25 = .bool x25_1 ∧ Aside0 (tripartiteref01_Run.j0 kq a0 x25_1 = some r) ∧ Aside0 (kq ≤ k) ∧ Drawn0 w wc)
  case first =>
    have H := HC2.out
    clear HC2
    by_cases c3 : a0.toList = ([] : List UInt8)
    · rw [if_pos c3] at H
      have c3b0 : (a0.toList == ([] : List UInt8)) = true := beq_iff_eq.mpr c3
      have c3b1 : (a0.toList != ([] : List UInt8)) = false := bne_eq_false_iff_eq.mpr c3
      clear c3
      (first | rw [c3b0] | (simp only [i64_w, i32_w]; rw [c3b0]) | skip)
      have H' := Aside0.mk H
      clear H
      go_wp2
      repeat (go_quiet (fail); try go_wp2)
      go_meet
      case rel => exact ⟨_, (true), (by first | rfl | (simp; done) | (simp [*]; done)), H', ⟨by first | omega | exact Nat.le_refl _⟩, by repeat (first | exact Drawn0.refl _ | apply Drawn0.step)⟩
    · rw [if_neg c3] at H
      have c3b0 : (a0.toList == ([] : List UInt8)) = false := beq_eq_false_iff_ne.mpr c3
      have c3b1 : (a0.toList != ([] : List UInt8)) = true := bne_iff_ne.mpr c3
      (first | rw [c3b0] | (simp only [i64_w, i32_w]; rw [c3b0]) | skip)
      by_cases c4 : 0 < (a0.size : Int)
      · rw [if_pos c4] at H
        have c4b0 : decide (0 < (a0.size : Int)) = true := decide_eq_true c4
        have c4b1 : decide (0 < a0.size) = true := decide_eq_true (by omega)
        clear c4
        by_cases c6 : (bt a0 0) = 60
        · rw [if_pos c6] at H
          have c6b0 : ((bt a0 0) == 60) = true := beq_iff_eq.mpr c6
          have c6b1 : ((bt a0 0) != 60) = false := bne_eq_false_iff_eq.mpr c6
          clear c6
          have H' := Aside0.mk H
          clear H
          have p5 : 0 ≤ (0 : Int) := (by omega)
          have q5 : 0 < a0.size := (by have : (0 : Int) < (a0.size : Int) := of_decide_eq_true (by first | (with_reducible assumption) | assumption); omega)
          have hx5 : ∀ h : 0 < a0.size, ((a0[0]'h).toNat : Int) = bt a0 0 := bt_at a0 0
          clear p5
          have qi5 : (0 < (a0.size : Int)) = True := eq_true (of_decide_eq_true (by first | (with_reducible assumption) | assumption))
          replace q5 := eq_true q5
          go_wp2
          repeat (go_quiet (fail); try go_wp2)
          go_meet
          case rel => exact ⟨_, (false), (by first | rfl | (simp; done) | (simp [*]; done)), H', ⟨by first | omega | exact Nat.le_refl _⟩, by repeat (first | exact Drawn0.refl _ | apply Drawn0.step)⟩
        · rw [if_neg c6] at H
          have c6b0 : ((bt a0 0) == 60) = false := beq_eq_false_iff_ne.mpr c6
          have c6b1 : ((bt a0 0) != 60) = true := bne_iff_ne.mpr c6
          by_cases c8 : (bt a0 0) = 124
          · rw [if_pos c8] at H
            have c8b0 : ((bt a0 0) == 124) = true := beq_iff_eq.mpr c8
            have c8b1 : ((bt a0 0) != 124) = false := bne_eq_false_iff_eq.mpr c8
            clear c8
            have H' := Aside0.mk H
            clear H
            have p5 : 0 ≤ (0 : Int) := (by omega)
            have q5 : 0 < a0.size := (by have : (0 : Int) < (a0.size : Int) := of_decide_eq_true (by first | (with_reducible assumption) | assumption); omega)
            have hx5 : ∀ h : 0 < a0.size, ((a0[0]'h).toNat : Int) = bt a0 0 := bt_at a0 0
            clear p5
            have qi5 : (0 < (a0.size : Int)) = True := eq_true (of_decide_eq_true (by first | (with_reducible assumption) | assumption))
            replace q5 := eq_true q5
            have p7 : 0 ≤ (0 : Int) := (by omega)
            have q7 : 0 < a0.size := (by have : (0 : Int) < (a0.size : Int) := of_decide_eq_true (by first | (with_reducible assumption) | assumption); omega)
            have hx7 : ∀ h : 0 < a0.size, ((a0[0]'h).toNat : Int) = bt a0 0 := bt_at a0 0
            clear p7
            have qi7 : (0 < (a0.size : Int)) = True := eq_true (of_decide_eq_true (by first | (with_reducible assumption) | assumption))
            replace q7 := eq_true q7
            go_wp2
            repeat (go_quiet (fail); try go_wp2)
            go_meet
            case rel => exact ⟨_, (false), (by first | rfl | (simp; done) | (simp [*]; done)), H', ⟨by first | omega | exact Nat.le_refl _⟩, by repeat (first | exact Drawn0.refl _ | apply Drawn0.step)⟩
          · rw [if_neg c8] at H
            have c8b0 : ((bt a0 0) == 124) = false := beq_eq_false_iff_ne.mpr c8
            have c8b1 : ((bt a0 0) != 124) = true := bne_iff_ne.mpr c8
            by_cases c10 : (bt a0 0) = 61
            · rw [if_pos c10] at H
              have c10b0 : ((bt a0 0) == 61) = true := beq_iff_eq.mpr c10
              have c10b1 : ((bt a0 0) != 61) = false := bne_eq_false_iff_eq.mpr c10
              clear c10
              have H' := Aside0.mk H
              clear H
              have p5 : 0 ≤ (0 : Int) := (by omega)
              have q5 : 0 < a0.size := (by have : (0 : Int) < (a0.size : Int) := of_decide_eq_true (by first | (with_reducible assumption) | assumption); omega)
              have hx5 : ∀ h : 0 < a0.size, ((a0[0]'h).toNat : Int) = bt a0 0 := bt_at a0 0
              clear p5
              have qi5 : (0 < (a0.size : Int)) = True := eq_true (of_decide_eq_true (by first | (with_reducible assumption) | assumption))
              replace q5 := eq_true q5
              have p7 : 0 ≤ (0 : Int) := (by omega)
              have q7 : 0 < a0.size := (by have : (0 : Int) < (a0.size : Int) := of_decide_eq_true (by first | (with_reducible assumption) | assumption); omega)
              have hx7 : ∀ h : 0 < a0.size, ((a0[0]'h).toNat : Int) = bt a0 0 := bt_at a0 0
              clear p7
              have qi7 : (0 < (a0.size : Int)) = True := eq_true (of_decide_eq_true (by first | (with_reducible assumption) | assumption))
              replace q7 := eq_true q7
              have p9 : 0 ≤ (0 : Int) := (by omega)
              have q9 : 0 < a0.size := (by have : (0 : Int) < (a0.size : Int) := of_decide_eq_true (by first | (with_reducible assumption) | assumption); omega)
              have hx9 : ∀ h : 0 < a0.size, ((a0[0]'h).toNat : Int) = bt a0 0 := bt_at a0 0
              clear p9
              have qi9 : (0 < (a0.size : Int)) = True := eq_true (of_decide_eq_true (by first | (with_reducible assumption) | assumption))
              replace q9 := eq_true q9
              go_wp2
              repeat (go_quiet (fail); try go_wp2)
              go_meet
              case rel => exact ⟨_, (false), (by first | rfl | (simp; done) | (simp [*]; done)), H', ⟨by first | omega | exact Nat.le_refl _⟩, by repeat (first | exact Drawn0.refl _ | apply Drawn0.step)⟩
            · rw [if_neg c10] at H
              have c10b0 : ((bt a0 0) == 61) = false := beq_eq_false_iff_ne.mpr c10
              have c10b1 : ((bt a0 0) != 61) = true := bne_iff_ne.mpr c10
              have H' := Aside0.mk H
              clear H
              have p5 : 0 ≤ (0 : Int) := (by omega)
              have q5 : 0 < a0.size := (by have : (0 : Int) < (a0.size : Int) := of_decide_eq_true (by first | (with_reducible assumption) | assumption); omega)
              have hx5 : ∀ h : 0 < a0.size, ((a0[0]'h).toNat : Int) = bt a0 0 := bt_at a0 0
              clear p5
              have qi5 : (0 < (a0.size : Int)) = True := eq_true (of_decide_eq_true (by first | (with_reducible assumption) | assumption))
              replace q5 := eq_true q5
              have p7 : 0 ≤ (0 : Int) := (by omega)
              have q7 : 0 < a0.size := (by have : (0 : Int) < (a0.size : Int) := of_decide_eq_true (by first | (with_reducible assumption) | assumption); omega)
              have hx7 : ∀ h : 0 < a0.size, ((a0[0]'h).toNat : Int) = bt a0 0 := bt_at a0 0
              clear p7
              have qi7 : (0 < (a0.size : Int)) = True := eq_true (of_decide_eq_true (by first | (with_reducible assumption) | assumption))
              replace q7 := eq_true q7
              have p9 : 0 ≤ (0 : Int) := (by omega)
              have q9 : 0 < a0.size := (by have : (0 : Int) < (a0.size : Int) := of_decide_eq_true (by first | (with_reducible assumption) | assumption); omega)
              have hx9 : ∀ h : 0 < a0.size, ((a0[0]'h).toNat : Int) = bt a0 0 := bt_at a0 0
              clear p9
              have qi9 : (0 < (a0.size : Int)) = True := eq_true (of_decide_eq_true (by first | (with_reducible assumption) | assumption))
              replace q9 := eq_true q9
              have p11 : 0 ≤ (0 : Int) := (by omega)
              have q11 : 0 < a0.size := (by have : (0 : Int) < (a0.size : Int) := of_decide_eq_true (by first | (with_reducible assumption) | assumption); omega)
              have hx11 : ∀ h : 0 < a0.size, ((a0[0]'h).toNat : Int) = bt a0 0 := bt_at a0 0
              clear p11
              have qi11 : (0 < (a0.size : Int)) = True := eq_true (of_decide_eq_true (by first | (with_reducible assumption) | assumption))
              replace q11 := eq_true q11
              go_wp2
              repeat (go_quiet (fail); try go_wp2)
              go_meet
              case rel => exact ⟨_, (((bt a0 0) != 62)), (by first | rfl | (simp; done) | (simp [*]; done)), H', ⟨by first | omega | exact Nat.le_refl _⟩, by repeat (first | exact Drawn0.refl _ | apply Drawn0.step)⟩
      · rw [if_neg c4] at H
        exact absurd H (by simp)
  case rest =>
    clear HC2
    try clear c1
    try clear p1
    try clear q1
    try clear hx1
    try clear qi1
    try clear p2
    try clear c3
    try clear c3b0
    try clear c3b1
    try clear c4
    try clear c4b0
    try clear c4b1
    try clear p5
    try clear q5
    try clear hx5
    try clear qi5
    try clear c6
    try clear c6b0
    try clear c6b1
    try clear p7
    try clear q7
    try clear hx7
    try clear qi7
    try clear c8
    try clear c8b0
    try clear c8b1
    try clear p9
    try clear q9
    try clear hx9
    try clear qi9
    try clear c10
    try clear c10b0
    try clear c10b1
    try clear p11
    try clear q11
    try clear hx11
    try clear qi11
    try clear p11
    try clear p5
    try clear p7
    try clear p9
    try clear q11
    try clear q5
    try clear q7
    try clear q9
    obtain ⟨kq, x25_1, rfl, HA, HJ1, ⟨mc1, rfl⟩⟩ := hcut
    cases kq with
    | zero => exact absurd HA.out (by simp [tripartiteref01_Run.j0])
    | succ kj1 =>
      have H := HA.out
      clear HA
      simp only [tripartiteref01_Run.j0] at H
      by_cases c12 : x25_1 = true
      · subst c12
        have H1 : (some 0) = some r := by rw [if_pos rfl] at H; exact H
        clear H
        have H := H1
        clear H1
        obtain rfl := Option.some.inj H
        go_wp2
        repeat (go_quiet (fail); try go_wp2)
        go_ret
        exact ⟨by first | rfl | (simp; done) | (simp [*]; done), by repeat (first | exact Drawn0.refl _ | apply Drawn0.step)⟩
      · replace c12 := Bool.eq_false_iff.mpr c12
        subst c12
        have H1 : (tripartiteref01_Run.l0 kj1 a0 0) = some r := by rw [if_neg (show ¬ (false = true) by decide)] at H; exact H
        clear H
        have H := H1
        clear H1
        have H' := Aside0.mk H
        clear H
        go_wp2
        repeat (go_quiet (fail); try go_wp2)
        go_loopg [3] kj1 (fun kq v3 w' => ∃ (x3_2 : Int), v3 = .int .i64 x3_2 ∧ Aside0 (tripartiteref01_Run.l0 kq a0 x3_2 = some r) ∧ Aside0 (kq ≤ kj1) ∧ Drawn0 w w')
        case atStart => exact ⟨(0), (by first | rfl | (simp; done) | (simp [*]; done)), H', ⟨Nat.le_refl _⟩, by repeat (first | exact Drawn0.refl _ | apply Drawn0.step)⟩
        case round =>
          clear H'
          try clear c1
          try clear p1
          try clear q1
          try clear hx1
          try clear qi1
          try clear p2
          try clear c3
          try clear c3b0
          try clear c3b1
          try clear c4
          try clear c4b0
          try clear c4b1
          try clear p5
          try clear q5
          try clear hx5
          try clear qi5
          try clear c6
          try clear c6b0
          try clear c6b1
          try clear p7
          try clear q7
          try clear hx7
          try clear qi7
          try clear c8
          try clear c8b0
          try clear c8b1
          try clear p9
          try clear q9
          try clear hx9
          try clear qi9
          try clear c10
          try clear c10b0
          try clear c10b1
          try clear p11
          try clear q11
          try clear hx11
          try clear qi11
          try clear c12
          try clear p1
          try clear p11
          try clear p2
          try clear p5
          try clear p7
          try clear p9
          try clear q1
          try clear q11
          try clear q5
          try clear q7
          try clear q9
          obtain ⟨x3_2, rfl, HA, HK2, ⟨m2, rfl⟩⟩ := hrel
          cases gk with
          | zero => exact absurd HA.out (by simp [tripartiteref01_Run.l0])
          | succ k2 =>
            have H := HA.out
            clear HA
            simp only [tripartiteref01_Run.l0] at H
            by_cases c13 : x3_2 < (a0.size : Int)
            · rw [if_pos c13] at H
              have c13b0 : decide (x3_2 < (a0.size : Int)) = true := decide_eq_true c13
              clear c13
              by_cases c14 : 0 ≤ x3_2
              · rw [if_pos c14] at H
                have c14b0 : decide (0 ≤ x3_2) = true := decide_eq_true c14
                clear c14
                by_cases c16 : 0 < (a0.size : Int)
                · rw [if_pos c16] at H
                  have c16b0 : decide (0 < (a0.size : Int)) = true := decide_eq_true c16
                  have c16b1 : decide (0 < a0.size) = true := decide_eq_true (by omega)
                  clear c16
                  by_cases c18 : (bt a0 x3_2) = (bt a0 0)
                  · rw [if_pos c18] at H
                    have c18b0 : ((bt a0 x3_2) == (bt a0 0)) = true := beq_iff_eq.mpr c18
                    have c18b1 : ((bt a0 x3_2) != (bt a0 0)) = false := bne_eq_false_iff_eq.mpr c18
                    clear c18
                    have H' := Aside0.mk H
                    clear H
                    have p15 : 0 ≤ (x3_2 : Int) := of_decide_eq_true (by first | (with_reducible assumption) | assumption)
                    have q15 : x3_2 < (a0.size : Int) := of_decide_eq_true (by first | (with_reducible assumption) | assumption)
                    have hx15 := bt_at a0 x3_2
                    replace p15 := eq_true p15
                    replace q15 := eq_true q15
                    have p17 : 0 ≤ (0 : Int) := (by omega)
                    have q17 : 0 < a0.size := (by have : (0 : Int) < (a0.size : Int) := of_decide_eq_true (by first | (with_reducible assumption) | assumption); omega)
                    have hx17 : ∀ h : 0 < a0.size, ((a0[0]'h).toNat : Int) = bt a0 0 := bt_at a0 0
                    clear p17
                    have qi17 : (0 < (a0.size : Int)) = True := eq_true (of_decide_eq_true (by first | (with_reducible assumption) | assumption))
                    replace q17 := eq_true q17
                    go_wp2
                    repeat (go_quiet (fail); try go_wp2)
                    go_roundg k2
                    case measure => have := HJ1.out; have := HK2.out; omega
                    case rel => exact ⟨(wrap64 (x3_2 + 1)), (by first | rfl | (simp; done) | (simp [*]; done)), H', ⟨by have := HJ1.out; have := HK2.out; omega⟩, by repeat (first | exact Drawn0.refl _ | apply Drawn0.step)⟩
                  · rw [if_neg c18] at H
                    have c18b0 : ((bt a0 x3_2) == (bt a0 0)) = false := beq_eq_false_iff_ne.mpr c18
                    have c18b1 : ((bt a0 x3_2) != (bt a0 0)) = true := bne_iff_ne.mpr c18
                    obtain rfl := Option.some.inj H
                    have p15 : 0 ≤ (x3_2 : Int) := of_decide_eq_true (by first | (with_reducible assumption) | assumption)
                    have q15 : x3_2 < (a0.size : Int) := of_decide_eq_true (by first | (with_reducible assumption) | assumption)
                    have hx15 := bt_at a0 x3_2
                    replace p15 := eq_true p15
                    replace q15 := eq_true q15
                    have p17 : 0 ≤ (0 : Int) := (by omega)
                    have q17 : 0 < a0.size := (by have : (0 : Int) < (a0.size : Int) := of_decide_eq_true (by first | (with_reducible assumption) | assumption); omega)
                    have hx17 : ∀ h : 0 < a0.size, ((a0[0]'h).toNat : Int) = bt a0 0 := bt_at a0 0
                    clear p17
                    have qi17 : (0 < (a0.size : Int)) = True := eq_true (of_decide_eq_true (by first | (with_reducible assumption) | assumption))
                    replace q17 := eq_true q17
                    go_wp2
                    repeat (go_quiet (fail); try go_wp2)
                    go_ret
                    exact ⟨by first | rfl | (simp; done) | (simp [*]; done), by repeat (first | exact Drawn0.refl _ | apply Drawn0.step)⟩
                · rw [if_neg c16] at H
                  exact absurd H (by simp)
              · rw [if_neg c14] at H
                exact absurd H (by simp)
            · rw [if_neg c13] at H
              have c13b0 : decide (x3_2 < (a0.size : Int)) = false := decide_eq_false c13
              clear c13
              obtain rfl := Option.some.inj H
              go_wp2
              repeat (go_quiet (fail); try go_wp2)
              go_ret
              exact ⟨by first | rfl | (simp; done) | (simp [*]; done), by repeat (first | exact Drawn0.refl _ | apply Drawn0.step)⟩
end Go.Proofs.Ytfiamddinkokbaa.F
end

section
set_option linter.unusedVariables false
set_option linter.unusedSimpArgs false
namespace Go.Proofs.Ytfiamddinkokbaa.F
open Go.RowKit Go.Proofs.YtfiamddinkokbaaW.PrintWords Go.Proofs.YtfiamddinkokbaaW.PrintLast Go.Proofs.YtfiamddinkokbaaW.PrintMore
attribute [local go_sem] max2_int min2_int max_two min_two max_three min_three max_four min_four
set_option linter.unusedVariables false
set_option linter.unusedSimpArgs false
def tripartiteref01_Longest.l0 : Nat → List ByteArray → Int → Int → Option (Int)
  | 0, _, _, _ => none
  | k + 1, x0, x3, x4 => if x4 < (x0.length : Int) then (if 0 ≤ x4 then ((tripartiteref01_Run.f k (rdOf ByteArray.empty x0 x4)).bind fun t175 => (tripartiteref01_Longest.l0 k x0 (mx x3 t175) (wrap64 (x4 + 1)))) else (none)) else (some x3)
def tripartiteref01_Longest.f (k : Nat) (l0 : List ByteArray) : Option (Int) := tripartiteref01_Longest.l0 k l0 0 0
theorem tripartiteref01_Longest.mono_l : ∀ k, (∀ y0 y1 y2, LeO (tripartiteref01_Longest.l0 k y0 y1 y2) (tripartiteref01_Longest.l0 (k + 1) y0 y1 y2))
  | 0 => fun _ _ _ r h => by simp [tripartiteref01_Longest.l0] at h
  | k + 1 => by
    have ih0 := tripartiteref01_Longest.mono_l k
    · intro y0 y1 y2
      unfold tripartiteref01_Longest.l0
      repeat' first
      | (with_reducible exact ih0 _ _ _)
      | (with_reducible exact tripartiteref01_Run.mono _ _)
      | (with_reducible exact LeO.refl _)
      | (with_reducible exact LeO.none _)
      | (with_reducible refine LeO.ite ?_ ?_)
      | (with_reducible refine LeO.bind ?_ (fun _ => ?_))
      | exact ih0 _ _ _
      | exact tripartiteref01_Run.mono _ _
      | exact LeO.none _
      | refine LeO.ite ?_ ?_
      | refine LeO.bind ?_ (fun _ => ?_)
theorem tripartiteref01_Longest.mono : ∀ a0 k, LeO (tripartiteref01_Longest.f k a0) (tripartiteref01_Longest.f (k + 1) a0) := by
  intro a0 k
  have ih0 := tripartiteref01_Longest.mono_l k
  unfold tripartiteref01_Longest.f
  repeat' first
      | (with_reducible exact ih0 _ _ _)
      | (with_reducible exact tripartiteref01_Run.mono _ _)
      | (with_reducible exact LeO.refl _)
      | (with_reducible exact LeO.none _)
      | (with_reducible refine LeO.ite ?_ ?_)
      | (with_reducible refine LeO.bind ?_ (fun _ => ?_))
      | exact ih0 _ _ _
      | exact tripartiteref01_Run.mono _ _
      | exact LeO.none _
      | refine LeO.ite ?_ ?_
      | refine LeO.bind ?_ (fun _ => ?_)
set_option maxHeartbeats 8000000 in
set_option maxRecDepth 100000 in
theorem tripartiteref01_Longest.calls (k : Nat) (A0 : Option Addr) (c0 : Nat) (l0 : List ByteArray) (r : Int) (w : World) (hr0 : Kd.C Kd.string w A0 l0.length l0) (hc0 : l0.length ≤ c0) (h : tripartiteref01_Longest.f k l0 = some r) :
    Calls Try.prog 41 #[.slice A0 l0.length c0] w fun e w' => e = .returned (.int .i64 r) ∧ Below w.heap.size w w' := by
  have HR0 := Aside0.mk hr0
  have HC0 := Aside0.mk hc0
  clear hr0 hc0
  have HB := Aside0.mk (Below.refl w.heap.size w)
  have H : (tripartiteref01_Longest.l0 k l0 0 0) = some r := h
  clear h
  have H' := Aside0.mk H
  clear H
  go_enter Try.func41, Try.ntmps41
  go_wp2
  go_loopg [3, 4] k (fun kq v3 v4 w' => ∃ (x3_1 : Int) (x4_1 : Int), v3 = .int .i64 x3_1 ∧ v4 = .int .i64 x4_1 ∧ Aside0 (tripartiteref01_Longest.l0 kq l0 x3_1 x4_1 = some r) ∧ Aside0 (kq ≤ k) ∧ Aside0 (Below w.heap.size w w'))
  case atStart => exact ⟨(0), (0), (by first | rfl | (simp; done) | (simp [*]; done)), (by first | rfl | (simp; done) | (simp [*]; done)), H', ⟨Nat.le_refl _⟩, ⟨by repeat (first | (with_reducible first | exact HB.out | apply below_alloc | apply pw_below_drewN | apply below_drew1) | exact HB.out)⟩⟩
  case round =>
    clear H'
    obtain ⟨x3_1, x4_1, rfl, rfl, HA, HK1, HB⟩ := hrel
    cases gk with
    | zero => exact absurd HA.out (by simp [tripartiteref01_Longest.l0])
    | succ k1 =>
      have H := HA.out
      clear HA
      simp only [tripartiteref01_Longest.l0] at H
      by_cases c2 : x4_1 < (l0.length : Int)
      · rw [if_pos c2] at H
        have c2b0 : decide (x4_1 < (l0.length : Int)) = true := decide_eq_true c2
        clear c2
        by_cases c3 : 0 ≤ x4_1
        · rw [if_pos c3] at H
          have c3b0 : decide (0 ≤ x4_1) = true := decide_eq_true c3
          clear c3
          replace H := Option.bind_eq_some_iff.mp H
          obtain ⟨t175, A40, H⟩ := H
          replace H : (tripartiteref01_Longest.l0 k1 l0 (mx x3_1 t175) (wrap64 (x4_1 + 1))) = some r := H
          have A4 := Aside0.mk A40
          clear A40
          obtain ⟨ji5, hji5⟩ : ∃ j_ : Int, (mx x3_1 t175) = j_ := ⟨_, rfl⟩
          replace H : (tripartiteref01_Longest.l0 k1 l0 ji5 (wrap64 (x4_1 + 1))) = some r := by first | (rw [hji5] at H; exact H) | (simp only [hji5] at H ⊢; exact H)
          (try rw [hji5] at A4)
          have hji5_ : (if x3_1 < t175 then t175 else x3_1) = ji5 := hji5
          have H' := Aside0.mk H
          clear H
          have p174 : 0 ≤ (x4_1 : Int) := of_decide_eq_true (by first | (with_reducible assumption) | assumption)
          have q174 : x4_1 < (l0.length : Int) := of_decide_eq_true (by first | (with_reducible assumption) | assumption)
          obtain ⟨ad174, e174, hx174_0⟩ := Kd.at_string HR0.out x4_1 p174 q174
          cases e174
          replace hx174_0 := (HB.out.cell (World.block_lt_of_cell? w _ hx174_0)).trans hx174_0
          replace p174 := eq_true p174
          replace q174 := eq_true q174
          go_wp2_with (first | ((with_reducible refine gate_callee (f := 44) rfl ?_); refine goesL_ (some 16) rfl rfl Try.func44 (by kernel_rfl) rfl #[.string (rdOf ByteArray.empty l0 x4_1)] rfl (by (try simp only [List.map_toArray, List.map_cons, List.map_nil]); first | done | rfl | (simp only [List.length_drop, List.length_take]; rfl)) ?_; (with_reducible refine (tripartiteref01_Run.calls k1 (rdOf ByteArray.empty l0 x4_1) t175 _ A4.out).mono ?_); rintro e w' ⟨rfl, ⟨nd, rfl⟩⟩; refine ⟨_, rfl, ?_⟩))
          go_roundg k1
          case measure => have := HK1.out; omega
          case rel => exact ⟨(ji5), (wrap64 (x4_1 + 1)), (by first | rfl | (simp; done) | (simp only [← hji5] <;> (first | rfl | simp)) | (simp [*]; done)), (by first | rfl | (simp; done) | (simp [*]; done)), H', ⟨by have := HK1.out; omega⟩, ⟨by repeat (first | (with_reducible first | exact HB.out | apply below_alloc | apply pw_below_drewN | apply below_drew1) | exact HB.out)⟩⟩
        · rw [if_neg c3] at H
          exact absurd H (by simp)
      · rw [if_neg c2] at H
        have c2b0 : decide (x4_1 < (l0.length : Int)) = false := decide_eq_false c2
        clear c2
        obtain rfl := Option.some.inj H
        go_wp2
        go_ret
        exact ⟨by first | rfl | (simp [errW_none, errW_some] <;> rfl) | (simp [*, errW_none, errW_some] <;> rfl), by repeat (first | (with_reducible first | exact HB.out | apply below_alloc | apply pw_below_drewN | apply below_drew1) | exact HB.out)⟩
end Go.Proofs.Ytfiamddinkokbaa.F
end
