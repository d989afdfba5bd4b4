/- Texts joined into one file (wip/tools/pack.py): Range, Lines, Shelf, Split, Run, Ext, Number, F0, FeqA84, Fn75, Fn24, Fn29, Fn43, Fn40, Fn71, Fn19, Fn65, Fn113, Fn84, Fn114, Fn142 -/
import Derived.RangeFuncBox
import Derived.RangeFuncLeaves
import Derived.Shelf.Abstract
import Derived.WalkKit
import Derived.OwnWalkIn
import Derived.Lib.IndexLaws
import Derived.Shelf.Strings.Builder1
import Derived.Shelf.Strings.Builder2
import Derived.Shelf.Strings.OnBuilder
import Derived.Shelf.Small.Strs
import Derived.Shelf.Small.Wraps
import Derived.Shelf.Strings.BuilderF
import Derived.Shelf.Strings.BuilderK
import Derived.Shelf.Strings.Builder2Cap
import Derived.Shelf.Strings.Search1
import Derived.Shelf.Strings.Search2
import Derived.Shelf.Strings.Search3
import Derived.Shelf.LaysM
import Derived.Shelf.Strings.Shaped
import Derived.Shelf.Strings.Prefix
import Derived.Shelf.Bits.Mul64
import Derived.Shelf.Strings.Repeat
import Derived.Shelf.Strings.BuilderCap
import Derived.Shelf.Slices.Equal
import Derived.Ground.Names2Prog
import Derived.Shelf.Slices.Clone
import Derived.Shelf.Slices.Empties2
import Derived.Test.YtfiamddinkokbaaProg
import Derived.Test.YtfiamddinkokbaaWords1
import Derived.TacticsInMore
import Derived.LoopNIn
import Derived.LoopIn
import Derived.Maps.AppendAt
import Derived.StillTailTactics
import Derived.Lib.Hide
import Derived.Outline
import Derived.Lib.OthersKept
import Derived.Maps.Own
import Derived.Maps.OwnOps
import Derived.Maps.OwnSet
import Derived.Below
import Derived.Deep.Draws
import Derived.Deep.AppendLies
import Derived.OwnWalk
import Derived.Laws.BytesArg
import Derived.Laws.MakeOwn
import Derived.Laws.OwnMore
import Derived.Deep.OwnRows
import Derived.Tactics
import Derived.Lib.ConvBytes
import Derived.Laws.Slices
import Derived.KernelRfl
import Derived.RowKit3
import Derived.Deep.LoopGhost
import Derived.Deep.QuietTactic
import Derived.BigQuiet
import Derived.WideLaws
import Derived.Deep.DeepCutAuto
import Derived.Deep.CutBlock
import Derived.Deep.RegionHeld3
import Derived.Laws.Rows
import Derived.Lib.AppendStr
import Derived.ArgAppend
import Derived.Laws.IdiomCopy
import Derived.OrdersHeld
import Derived.Laws.BitsLemmas
import Derived.RowKit
section
set_option linter.unusedVariables false
set_option linter.unusedSimpArgs false
namespace Go.Proofs.Ytfiamddinkokbaa
open Go.RowKit
def SeqCell {α : Type} (F : Fence) (n : Nat) (P : Program) (g : Nat) (lb : Array Value) (encs : α → Array Value) (B : Nat) (o : Obj) (S : List α → Prop) (N : Nat) : Prop :=
  ∀ (l : Nat) (J : List α → World → Prop) (W : World), W.heap[B]? = some o →
    (∀ s W v, J s W → J s (W.setCell ⟨B, 0, none⟩ v)) → (∀ s W, J s W → J s W.drew) →
    (∀ pre x W1, J pre W1 → pre.length < N → YieldAt F (n - 1) P l (encs x) W1 fun e W' => e = .returned (.bool true) ∧ J (pre ++ [x]) W' ∧ W'.heap[B]? = W1.heap[B]?) →
    J [] W →
    CallsIn F n P g (#[.func (.yield l) #[] #[]] ++ lb) W fun e W' => (∃ v, e = .returned v) ∧ ∃ xs, S xs ∧ J xs W'
variable {F : Fence} {n : Nat} {P : Program}
theorem wpIn_rangeFunc_cell {α : Type} {g : Operand} {ps : Array Tmp} {assign body : Code} {Q : Exit → Act → World → Prop} {a : Act} {w : World}
    (hro : F.round = none) (h1 : 1 ≤ n) {gf : Nat} {lb : Array Value} (hg : a.eval g = .func (.func gf) #[] lb) (hFg : F.fn gf) (eg : ∀ args w, (callFunc gf args).run P w = .ok (.enter gf args) w)
    {encs : α → Array Value} {B : Nat} {o : Obj} {S : List α → Prop} {N : Nat} (hseq : SeqCell F (n - 1) P gf lb encs B o S N)
    (hBo : w.heap[B]? = some o) (hps : ∀ x, (encs x).size = ps.size)
    (I : List α → World → Prop) (hI : OwnFrom w.heap.size I) (hIB : ∀ s W v, I s W → I s (W.setCell ⟨B, 0, none⟩ v)) (hId : ∀ s W, I s W → I s W.drew) (h0 : I [] w) (a₁ : α → Act)
    (hassign : ∀ (l : Nat) (x : α) (W : World) (K : Act → World → Prop), K (a₁ x) W →
      assign.wpIn (F.inRound l) (n - 1 - 1) P (Exit.then K (fun _ _ _ => False)) { tmps := (ps.zip (encs x)).foldl (fun t (p, v) => t.setIfInBounds p v) a.tmps, defers := [] } W)
    (hbody : ∀ (l : Nat) (pre : List α) (x : α) (W : World), I pre W → pre.length < N → body.wpIn (F.inRound l) (n - 1 - 1) P
      (fun e _ W' => e = .normal ∧ KeepsFrom w.heap.size W W' ∧ W'.heap[B]? = W.heap[B]? ∧ I (pre ++ [x]) W') (a₁ x) W)
    (hdone : ∀ (D : Nat) (xs : List α) (W : World), w.heap.size ≤ D → S xs → I xs W → W.heap[D]? = some (.deferred (some [])) → Q .normal { a with defers := { target := .collected D, args := #[] } :: a.defers } W) :
    (Code.rangeFunc g ps assign body).wpIn F n P Q a w := by
  have hBlt : B < w.heap.size := (Array.getElem?_eq_some_iff.1 hBo).1
  refine wpIn_rangeFunc ?_
  intro fn hfn
  rw [hro]
  obtain ⟨rec, hrec⟩ : ∃ rec : LoopState → Option Code → Loop, rec = fun st pe => { state := st, pending := pe, fn, tmps := a.tmps, params := ps, assign, body, defers := w.heap.size } := ⟨_, rfl⟩
  obtain ⟨W1, hW1⟩ : ∃ W1, (w.alloc (.deferred (some []))).alloc (.loop (rec .ready none)) = W1 := ⟨_, rfl⟩
  have hL1 : W1.heap[w.heap.size + 1]? = some (.loop (rec .ready none)) := by
    rw [← hW1]; have := World.alloc_heap_new (w.alloc (.deferred (some []))) (.loop (rec .ready none)); rwa [World.size_alloc] at this
  have hK1 : W1.heap[w.heap.size]? = some (.deferred (some [])) := by
    rw [← hW1]; exact (Below.heap_alloc _ _ _ (by simp)).trans (World.alloc_heap_new w _)
  have hB1 : W1.heap[B]? = some o := by
    rw [← hW1, Below.heap_alloc _ _ _ (by simp; omega), Below.heap_alloc _ _ _ (by omega)]; exact hBo
  have hI1 : I [] W1 := by rw [← hW1]; exact hI.alloc _ (hI.alloc _ h0)
  refine ⟨w.heap.size + 1, [{ target := .collected w.heap.size, args := #[] }], W1, { target := .fn (.func gf) lb, args := #[.func (.yield (w.heap.size + 1)) #[] #[]] }, W1, gf,
    #[.func (.yield (w.heap.size + 1)) #[] #[]] ++ lb, W1, ?_, ?_, ?_, ?_, fun _ => h1, ?_⟩
  · rw [← hW1, hrec]; exact run_enterLoop_outer _ _ _ _ _
  · simp only [resolve, hg]
    simp [go_sem]
  · intro f' hf'; simp [Target.leads] at hf'; subst hf'; exact hFg
  · simp [invoke, go_sem, eg]
  · refine (hseq (w.heap.size + 1)
      (fun pre W => I pre W ∧ W.heap[w.heap.size + 1]? = some (.loop (rec .ready none)) ∧ W.heap[w.heap.size]? = some (.deferred (some [])))
      W1 hB1
      (fun s A v hs => ⟨hIB s A v hs.1, (Below.heap_setCell _ _ _ _ (by simp; omega)).trans hs.2.1, (Below.heap_setCell _ _ _ _ (by simp; omega)).trans hs.2.2⟩)
      (fun s A hs => ⟨hId s A hs.1, hs.2.1, hs.2.2⟩)
      ?_ ⟨hI1, hL1, hK1⟩).mono ?_
    · rintro pre x W ⟨hi, hl, hk⟩ hlen
      have hlt : w.heap.size + 1 < W.heap.size := (Array.getElem?_eq_some_iff.1 hl).1
      have hy := run_yield (P := P) (args := encs x) hl (by rw [hrec]; exact hps x)
      rw [hrec] at hy
      refine ⟨fn, _, assign, body, hy, roundIn_of_wpIn hfn (hassign _ x W _ ⟨_, run_beginRound hl (by rw [hrec]), ?_⟩)⟩
      have hl2 : (W.putObj (w.heap.size + 1) (.loop { rec .ready none with state := .busy })).heap[w.heap.size + 1]? = some (.loop { rec .ready none with state := .busy }) := World.putObj_heap_same hlt
      have hk2 : (W.putObj (w.heap.size + 1) (.loop { rec .ready none with state := .busy })).heap[w.heap.size]? = some (.deferred (some [])) := (World.putObj_heap_other (by omega)).trans hk
      have hb2 : (W.putObj (w.heap.size + 1) (.loop { rec .ready none with state := .busy })).heap[B]? = W.heap[B]? := World.putObj_heap_other (by omega)
      refine wpIn_mono (hbody _ pre x _ (hI.putObj _ hi (by omega) hl rfl) hlen) ?_
      rintro e a3 W3 ⟨rfl, hk3, hb3, hi3⟩
      have hl3 := hk3.same _ _ (by omega) hl2 rfl
      have hre := run_endRound (P := P) none hl3
      rw [hrec] at hre ⊢
      rw [hrec] at hl3 hl2 hk2 hk3
      refine ⟨_, _, hre, rfl, ⟨hI.putObj _ hi3 (by omega) hl3 rfl, World.putObj_heap_same (Array.getElem?_eq_some_iff.1 hl3).1, (World.putObj_heap_other (by omega)).trans (hk3.same _ _ (Nat.le_refl _) hk2 rfl)⟩, ?_⟩
      exact (World.putObj_heap_other (by omega)).trans (hb3.trans hb2)
    · rintro e W2 ⟨⟨v, rfl⟩, xs, hS, hi, hl, hk⟩
      exact ⟨none, _, by have := run_endLoop (P := P) hl (by rw [hrec]; simp); rw [hrec] at this; exact this, hdone _ xs _ (Nat.le_refl _) hS (hI.putObj _ hi (by omega) hl rfl) ((World.putObj_heap_other (by omega)).trans hk)⟩
end Go.Proofs.Ytfiamddinkokbaa
end

section
set_option linter.unusedVariables false
set_option linter.unusedSimpArgs false
namespace Go.Proofs.Ytfiamddinkokbaa
open Go
def splitL : List UInt8 → List (List UInt8)
  | [] => []
  | c :: t => if c = 10 then [10] :: splitL t else match splitL t with
    | [] => [[c]]
    | l :: r => (c :: l) :: r
def takeLine : List UInt8 → List UInt8
  | [] => []
  | c :: t => if c = 10 then [10] else c :: takeLine t
def dropLine : List UInt8 → List UInt8
  | [] => []
  | c :: t => if c = 10 then t else dropLine t
theorem splitL_next : ∀ l : List UInt8, l ≠ [] → splitL l = takeLine l :: splitL (dropLine l)
  | [], h => absurd rfl h
  | c :: t, _ => by
    by_cases hc : c = 10
    · simp [splitL, takeLine, dropLine, hc]
    · simp only [splitL, takeLine, dropLine, hc, if_false]
      by_cases ht : t = []
      · subst ht; simp [splitL, takeLine, dropLine]
      · rw [splitL_next t ht]
theorem line_of_some : ∀ (l : List UInt8) (o : Nat), Lib.indexByte l 10 = o → takeLine l = l.take (o + 1) ∧ dropLine l = l.drop (o + 1)
  | [], o, h => by
    have := (Lib.indexByte_some h).1
    simp at this
  | c :: t, o, h => by
    obtain ⟨h1, h2⟩ := Lib.indexByte_some h
    by_cases hc : c = 10
    · have : o = 0 := by
        rcases Nat.eq_zero_or_pos o with h0 | h0
        · exact h0
        · exact absurd (by simp [hc]) (h2 0 h0)
      subst this
      simp [takeLine, dropLine, hc]
    · cases o with
      | zero => simp at h1; exact absurd h1 hc
      | succ o =>
        have ih := line_of_some t o (by
          simp only [Lib.indexByte, beq_iff_eq, if_neg hc] at h
          split at h <;> omega)
        simp [takeLine, dropLine, hc, ih.1, ih.2]
theorem line_of_none : ∀ (l : List UInt8), Lib.indexByte l 10 = -1 → takeLine l = l ∧ dropLine l = []
  | [], _ => ⟨rfl, rfl⟩
  | c :: t, h => by
    have hn := Lib.indexByte_none h
    have hc : c ≠ 10 := fun e => hn 0 (by simp [e])
    have ih := line_of_none t (by
      have hg := Lib.indexByte_ge t 10
      rcases Int.lt_or_le (Lib.indexByte t 10) 0 with h0 | h0
      · omega
      · obtain ⟨o, ho⟩ := Int.eq_ofNat_of_zero_le h0
        exact absurd (Lib.indexByte_some ho).1 (by have := hn (o + 1); simpa using this))
    simp [takeLine, dropLine, hc, ih.1, ih.2]
def toB (l : List UInt8) : ByteArray := ⟨l.toArray⟩
def splitB (s : ByteArray) : List ByteArray := (splitL s.data.toList).map toB
theorem toB_data (s : ByteArray) : toB s.data.toList = s := by cases s; simp [toB]
@[simp] theorem toB_size (l : List UInt8) : (toB l).size = l.length := by simp [toB, ByteArray.size]
@[simp] theorem data_toB (l : List UInt8) : (toB l).data.toList = l := by simp [toB]
theorem splitL_length_le : ∀ l : List UInt8, (splitL l).length ≤ l.length
  | [] => by simp [splitL]
  | c :: t => by
    have ih := splitL_length_le t
    simp only [splitL]
    split
    · simpa using ih
    · split
      · simp
      · rename_i h; rw [h] at ih; simp at ih ⊢; omega
end Go.Proofs.Ytfiamddinkokbaa
end

section
set_option linter.unusedVariables false
set_option linter.unusedSimpArgs false
namespace Go.Proofs
open Go.Shelf
def Try.lays137_ren : Go.Shelf.Ren := ⟨fun | 137 => 120 | 217 => 144 | 266 => 160 | n => n, fun | 9 => 9 | 5 => 5 | 3 => 3 | n => n, fun | n => n⟩
theorem Try.lays137 : Go.Proofs.Lays.n137 Try.prog Try.lays137_ren := {
  mixed := by kernel_rfl
  f137 := Try.func120.trans (congrArg some (by kernel_rfl))
  f217 := Try.func144.trans (congrArg some (by kernel_rfl))
  f266 := Try.func160.trans (congrArg some (by kernel_rfl))
  t3 := Try.underlying3
  a3 := Try.isAgg3
  z3 := Try.sizeOf3
  v3 := Try.zeroValue3
  t5 := Try.underlying5
  a5 := Try.isAgg5
  z5 := Try.sizeOf5
  v5 := Try.zeroValue5
  t9 := Try.underlying9
  a9 := Try.isAgg9
  z9 := Try.sizeOf9
  v9 := Try.zeroValue9 }
open Go.RowKit in
theorem Try.strings_IndexByte (s : ByteArray) (c : Int) (w : World) :
    Calls Try.prog 120 #[.string s, .int .u8 c] w fun e w' => e = .returned (.int .i64 (Lib.indexByte s.data.toList c.toNat.toUInt8)) ∧ w' = w := Any.strings_IndexByte Try.lays137 s c w
def Try.lays144_ren : Go.Shelf.Ren := ⟨fun | 144 => 84 | 143 => 82 | 219 => 122 | 217 => 144 | 225 => 146 | 224 => 147 | 267 => 148 | 266 => 160 | 314 => 162 | n => n, fun | 9 => 9 | 4 => 4 | 3 => 3 | 5 => 5 | 46 => 183 | 146 => 200 | 51 => 199 | n => n, fun | 1 => 0 | n => n⟩
theorem Try.lays144 : Go.Proofs.Lays.n144 Try.prog Try.lays144_ren := {
  mixed := by kernel_rfl
  f143 := Try.func82.trans (congrArg some (by kernel_rfl))
  f144 := Try.func84.trans (congrArg some (by kernel_rfl))
  f217 := Try.func144.trans (congrArg some (by kernel_rfl))
  f219 := Try.func122.trans (congrArg some (by kernel_rfl))
  f224 := Try.func147.trans (congrArg some (by kernel_rfl))
  f225 := Try.func146.trans (congrArg some (by kernel_rfl))
  f266 := Try.func160.trans (congrArg some (by kernel_rfl))
  f267 := Try.func148.trans (congrArg some (by kernel_rfl))
  f314 := Try.func162.trans (congrArg some (by kernel_rfl))
  t3 := Try.underlying3
  a3 := Try.isAgg3
  z3 := Try.sizeOf3
  v3 := Try.zeroValue3
  t4 := Try.underlying4
  a4 := Try.isAgg4
  z4 := Try.sizeOf4
  v4 := Try.zeroValue4
  t5 := Try.underlying5
  a5 := Try.isAgg5
  z5 := Try.sizeOf5
  v5 := Try.zeroValue5
  t9 := Try.underlying9
  a9 := Try.isAgg9
  z9 := Try.sizeOf9
  v9 := Try.zeroValue9
  t46 := Try.underlying183
  a46 := Try.isAgg183
  z46 := Try.sizeOf183
  v46 := Try.zeroValue183
  t51 := Try.underlying199
  a51 := Try.isAgg199
  z51 := Try.sizeOf199
  v51 := Try.zeroValue199
  t146 := Try.underlying200
  a146 := Try.isAgg200
  z146 := Try.sizeOf200
  v146 := Try.zeroValue200
  g1 := by kernel_rfl }
open Go.RowKit Go.Lib in
theorem Try.strings_Contains_one (s : ByteArray) (c : UInt8) (w : World) :
    Calls Try.prog 84 #[.string s, .string ⟨#[c]⟩] w fun e w' => e = .returned (.bool (decide (0 ≤ Lib.indexByte s.data.toList c))) ∧ w' = w := Any.strings_Contains_one Try.lays144 s c w
open Go.RowKit Go.Lib in
theorem Try.strings_Contains (s sub : ByteArray) (m : Int) (w : World) (hs : s.size < 4294967281) (hm : w.cell? ⟨0, 0, none⟩ = some (.int .i64 m)) :
    Calls Try.prog 84 #[.string s, .string sub] w fun e w' => e = .returned (.bool (Lib.contains s.data.toList sub.data.toList)) ∧ w' = w := Any.strings_Contains Try.lays144 s sub m w hs hm
def Try.lays207_ren : Go.Shelf.Ren := ⟨fun | 207 => 142 | n => n, fun | 9 => 9 | 4 => 4 | 3 => 3 | n => n, fun | n => n⟩
theorem Try.lays207 : Go.Proofs.Lays.n207 Try.prog Try.lays207_ren := {
  mixed := by kernel_rfl
  f207 := Try.func142.trans (congrArg some (by kernel_rfl))
  t3 := Try.underlying3
  a3 := Try.isAgg3
  z3 := Try.sizeOf3
  v3 := Try.zeroValue3
  t4 := Try.underlying4
  a4 := Try.isAgg4
  z4 := Try.sizeOf4
  v4 := Try.zeroValue4
  t9 := Try.underlying9
  a9 := Try.isAgg9
  z9 := Try.sizeOf9
  v9 := Try.zeroValue9 }
open Go.RowKit Go.Lib in
theorem Try.stringslite_HasSuffix (s p : ByteArray) (w : World) (hs : s.size ≤ 9223372036854775807) :
    Calls Try.prog 142 #[.string s, .string p] w fun e w' => e = .returned (.bool (Lib.hasSuffix s.data.toList p.data.toList)) ∧ w' = w := Any.stringslite_HasSuffix Try.lays207 s p w hs
def Try.lays100_ren : Go.Shelf.Ren := ⟨fun | 100 => 115 | 207 => 142 | n => n, fun | 9 => 9 | 4 => 4 | 3 => 3 | n => n, fun | n => n⟩
theorem Try.lays100 : Go.Proofs.Lays.n100 Try.prog Try.lays100_ren := {
  mixed := by kernel_rfl
  f100 := Try.func115.trans (congrArg some (by kernel_rfl))
  f207 := Try.func142.trans (congrArg some (by kernel_rfl))
  t3 := Try.underlying3
  a3 := Try.isAgg3
  z3 := Try.sizeOf3
  v3 := Try.zeroValue3
  t4 := Try.underlying4
  a4 := Try.isAgg4
  z4 := Try.sizeOf4
  v4 := Try.zeroValue4
  t9 := Try.underlying9
  a9 := Try.isAgg9
  z9 := Try.sizeOf9
  v9 := Try.zeroValue9 }
open Go.RowKit Go.Lib in
theorem Try.strings_HasSuffix (s p : ByteArray) (w : World) (hs : s.size ≤ 9223372036854775807) :
    Calls Try.prog 115 #[.string s, .string p] w fun e w' => e = .returned (.bool (Lib.hasSuffix s.data.toList p.data.toList)) ∧ w' = w := Any.strings_HasSuffix Try.lays100 s p w hs
end Go.Proofs
end

section
set_option linter.unusedVariables false
set_option linter.unusedSimpArgs false
namespace Go.Proofs.Ytfiamddinkokbaa
open Go.RowKit Go.Shelf Go.Proofs.YtfiamddinkokbaaW.PrintWords
attribute [local go_sem] Oper.semAt_some
def leftIn (B : Nat) (W : World) : Nat := match W.cell? ⟨B, 0, none⟩ with | some (.string s) => s.size | _ => 0
theorem leftIn_eq {B : Nat} {W : World} {s : ByteArray} (h : W.cell? ⟨B, 0, none⟩ = some (.string s)) : leftIn B W = s.size := by simp [leftIn, h]
theorem own_lower {w : World} {base base' : Nat} {e : TypeId} {size n : Nat} {v : Value} {xs : List Value} (hb : base' ≤ base) (h : w.ownsRow base e size v n xs) : w.ownsRow base' e size v n xs := by
  obtain ⟨h1, h2⟩ := h
  refine ⟨h1, ?_⟩
  rcases h2 with h2 | ⟨g, cap, cur, hv, hg, r⟩
  · exact Or.inl h2
  · exact Or.inr ⟨g, cap, cur, hv, Nat.le_trans hb hg, r⟩
theorem dropLine_lt : ∀ l : List UInt8, l ≠ [] → (dropLine l).length < l.length
  | [], h => absurd rfl h
  | c :: t, _ => by
    by_cases hc : c = 10
    · simp [dropLine, hc]
    · by_cases ht : t = []
      · subst ht; simp [dropLine, hc]
      · have := dropLine_lt t ht
        simp [dropLine, hc]; omega
set_option maxRecDepth 100000 in
set_option maxHeartbeats 1000000 in
theorem lines1_in (n : Nat) (hn : 1 ≤ n) (l B : Nat) (s0 : ByteArray) (hsz : s0.size ≤ 4000000000) (J : List ByteArray → World → Prop)
    (hset : ∀ s W v, J s W → J s (W.setCell ⟨B, 0, none⟩ v)) (hdr : ∀ s W, J s W → J s W.drew)
    (hY : ∀ pre x W1, J pre W1 → pre.length < (splitB s0).length → YieldAt Fence.wide (n - 1) Try.prog l #[.string x] W1 fun e W' => e = .returned (.bool true) ∧ J (pre ++ [x]) W' ∧ W'.heap[B]? = W1.heap[B]?)
    (W : World) (hB : Boxed W B 9 (.string s0)) (h0 : J [] W) :
    CallsIn Fence.wide n Try.prog 119 #[.func (.yield l) #[] #[], .pointer (some ⟨B, 0, none⟩)] W fun e W' => (∃ v, e = .returned v) ∧ ∃ xs, xs = splitB s0 ∧ J xs W' := by
  refine callsIn_of_wp Try.func119 rfl trivial ?_ rfl
  simp only [Try.ntmps119, List.size_toArray, List.length_cons, List.length_nil, Nat.reduceAdd, Nat.reduceSub, Array.replicate_succ, Array.replicate_zero, List.push_toArray, List.append_toArray, List.nil_append, List.cons_append]
  gi_wp2
  gi_loopw [3, 4] (fun _ _ wr => ∃ (pre : List ByteArray) (s : ByteArray), Boxed wr B 9 (.string s) ∧ s.size ≤ s0.size ∧ splitB s0 = pre ++ splitB s ∧ J pre wr)
    (fun _ _ wr => leftIn B wr)
  case atStart => exact ⟨[], s0, hB, Nat.le_refl _, rfl, h0⟩
  case round =>
    obtain ⟨pre, s, hb, hle, hx, hJ⟩ := hrel
    have hsz' : s.size ≤ 4000000000 := by omega
    have hc := hb.cell
    have hf := hb.frozen
    by_cases hs : s.size = 0
    · have hs0 : decide ((0 : Int) < (s.size : Int)) = false := by simp [hs]
      have hnil : splitB s = [] := by
        have : s.data.toList = [] := List.eq_nil_of_length_eq_zero (by rw [Array.length_toList]; exact hs)
        simp [splitB, this, splitL]
      have HE := Lib.hid (show ∃ xs, xs = splitB s0 ∧ J xs wr from ⟨pre, by rw [hx, hnil, List.append_nil], hJ⟩)
      clear hx hnil
      gi_wp2
      go_end0
      exact ⟨⟨_, rfl⟩, HE.out⟩
    · have hs0 : decide ((0 : Int) < (s.size : Int)) = true := by simp; omega
      have hne : s.data.toList ≠ [] := by
        intro h; apply hs; have := congrArg List.length h; rw [Array.length_toList] at this; exact this
      have hnx : splitB s = toB (takeLine s.data.toList) :: splitB (toB (dropLine s.data.toList)) := by
        unfold splitB; rw [splitL_next _ hne]; simp
      have HD : Hid ((dropLine s.data.toList).length < s.size) := by
        have := dropLine_lt _ hne; rw [Array.length_toList] at this; exact this
      have HX := Lib.hid hx
      have HN := Lib.hid hnx
      clear hx hnx
      have hcall := Try.strings_IndexByte s 10 wr
      rw [show (10 : Int).toNat.toUInt8 = 10 from rfl] at hcall
      by_cases hi : 0 ≤ Lib.indexByte s.data.toList 10
      · obtain ⟨i, hi'⟩ := Int.eq_ofNat_of_zero_le hi
        rw [hi'] at hcall
        have hlt : i < s.size := by
          have := (Lib.indexByte_some hi').1
          have := (List.getElem?_eq_some_iff.1 this).1
          rw [Array.length_toList] at this; exact this
        have hl := line_of_some _ i hi'
        have HL := Lib.hid hl
        clear hl hi hi'
        have HCALL := Lib.hid hcall
        clear hcall
        gi_wp2_with (refine ⟨trivial, ?_⟩; gi_at_call 120; refine (callsIn_wide.2 HCALL.out).mono ?_; rintro e w' ⟨rfl, rfl⟩)
        gi_region
        have hb1 : Boxed (w'.setCell ⟨B, 0, none⟩ (.string (s.extract (i + 1) s.size))).drew B 9 (.string (s.extract (i + 1) s.size)) := hb.set _
        have e1 : s.extract 0 (i + 1) = toB (takeLine s.data.toList) := by
          rw [HL.out.1, ← toB_data (s.extract 0 (i + 1)), Lib.extract_data]; simp
        have e2 : s.extract (i + 1) s.size = toB (dropLine s.data.toList) := by
          rw [HL.out.2, ← toB_data (s.extract (i + 1) s.size), Lib.extract_data, List.take_of_length_le (by rw [List.length_drop, Array.length_toList]; exact Nat.le_refl _)]
        have hJ1 : J pre (w'.setCell ⟨B, 0, none⟩ (.string (s.extract (i + 1) s.size))).drew := hdr _ _ (hset _ _ _ hJ)
        have hlen : pre.length < (splitB s0).length := by rw [HX.out, HN.out]; simp
        obtain ⟨fn, tmps, assign, body, hy, hR⟩ := hY pre (s.extract 0 (i + 1)) _ hJ1 hlen
        have E1 := Lib.hid e1
        have E2 := Lib.hid e2
        clear e1 e2 hlen
        gi_wp2
        refine hR.mono ?_
        rintro e W3 ⟨rfl, hJ3, hk3⟩
        have hb3 : Boxed W3 B 9 (.string (s.extract (i + 1) s.size)) := hk3.trans hb1
        gi_wp2
        go_roundw
        case rel =>
          refine ⟨pre ++ [s.extract 0 (i + 1)], s.extract (i + 1) s.size, hb3, ?_, ?_, hJ3⟩
          · rw [E2.out, toB_size]; have := HD.out; omega
          · rw [HX.out, HN.out, E1.out, E2.out]; simp
        case measure =>
          rw [leftIn_eq hb3.cell, leftIn_eq hc, E2.out, toB_size]; exact HD.out
      · have hi0 : Lib.indexByte s.data.toList 10 = -1 := by have := Lib.indexByte_ge s.data.toList 10; omega
        rw [hi0] at hcall
        have hl := line_of_none _ hi0
        have HL := Lib.hid hl
        clear hl hi hi0
        have HCALL := Lib.hid hcall
        clear hcall
        have hb1 : Boxed (wr.setCell ⟨B, 0, none⟩ (.string ⟨#[]⟩)) B 9 (.string ⟨#[]⟩) := hb.set _
        have hJ1 : J pre (wr.setCell ⟨B, 0, none⟩ (.string ⟨#[]⟩)) := hset _ _ _ hJ
        have hlen : pre.length < (splitB s0).length := by rw [HX.out, HN.out]; simp
        obtain ⟨fn, tmps, assign, body, hy, hR⟩ := hY pre s _ hJ1 hlen
        clear hlen
        gi_wp2_with (refine ⟨trivial, ?_⟩; gi_at_call 120; refine (callsIn_wide.2 HCALL.out).mono ?_; rintro e w' ⟨rfl, rfl⟩)
        refine hR.mono ?_
        rintro e W3 ⟨rfl, hJ3, hk3⟩
        have hb3 : Boxed W3 B 9 (.string ⟨#[]⟩) := hk3.trans hb1
        gi_wp2
        go_roundw
        case rel =>
          refine ⟨pre ++ [s], ⟨#[]⟩, hb3, Nat.zero_le _, ?_, hJ3⟩
          rw [HX.out, HN.out, HL.out.1, HL.out.2, toB_data]; simp [splitB, splitL, toB]
        case measure =>
          rw [leftIn_eq hb3.cell, leftIn_eq hc]
          show 0 < s.size
          omega
theorem lines_seq (n : Nat) (hn : 1 ≤ n) (B : Nat) (s0 : ByteArray) (hsz : s0.size ≤ 4000000000) :
    SeqCell Fence.wide n Try.prog 119 #[.pointer (some ⟨B, 0, none⟩)] (fun x : ByteArray => #[Value.string x]) B (.cells #[.string s0] 9 (0, 0)) (fun xs => xs = splitB s0) (splitB s0).length :=
  fun l J W hB hset hdr hY h0 => lines1_in n hn l B s0 hsz J hset hdr hY W hB h0
set_option maxHeartbeats 1000000 in
theorem lines_in (n : Nat) (s : ByteArray) (w : World) :
    CallsIn Fence.wide n Try.prog 80 #[.string s] w fun e w' => e = .returned (.func (.func 119) #[] #[.pointer (some ⟨w.heap.size, 0, none⟩)]) ∧ w' = w.alloc (.cells #[.string s] 9) := by
  refine callsIn_of_wp Try.func80 rfl trivial ?_ rfl
  simp only [Try.ntmps80, List.size_toArray, List.length_cons, List.length_nil, Nat.reduceAdd, Nat.reduceSub, Array.replicate_succ, Array.replicate_zero, List.push_toArray, List.append_toArray, List.nil_append, List.cons_append]
  gi_wp2
  go_ret
  exact ⟨rfl, rfl⟩
theorem split_info : (Try.prog.info? 9).map (fun i => (i.zero, i.size, i.bytes)) = some (some (.string ⟨#[]⟩), 1, 16) := by kernel_rfl
set_option maxRecDepth 100000 in
set_option maxHeartbeats 2000000 in
theorem appendSeq_in (n : Nat) (hn : 3 ≤ n) (s : ByteArray) (hsz : s.size ≤ 4000000000) (n₀ B : Nat) (w0 w : World) (h0B : n₀ ≤ B) (hw0 : n₀ ≤ w0.heap.size) (hbel : Below n₀ w0 w) (hB : Boxed w B 9 (.string s)) :
    CallsIn Fence.wide n Try.prog 118 #[.slice none 0 0, .func (.func 119) #[] #[.pointer (some ⟨B, 0, none⟩)]] w fun e W' => ∃ v, e = .returned v ∧ W'.ownsRow n₀ 9 1 v (splitB s).length ((splitB s).map Value.string) ∧ Below n₀ w0 W' := by
  have h1 : 1 ≤ n := by omega
  obtain ⟨i0, hi, hz0, hz1, hz2⟩ := info_parts split_info
  refine callsIn_of_wp_marks Try.func118 rfl trivial ?_ rfl
  simp only [Try.ntmps118, List.size_toArray, List.length_cons, List.length_nil, Nat.reduceAdd, Nat.reduceSub, Array.replicate_succ, Array.replicate_zero, List.push_toArray, List.append_toArray, List.nil_append, List.cons_append]
  have hBlt := hB.lt
  have bO := Boxed.new w 36 (.slice none 0 0)
  have hB1 : Boxed (w.alloc (.cells #[.slice none 0 0] 36)) B 9 (.string s) := hB.alloc _
  have hbel1 : Below n₀ w0 (w.alloc (.cells #[.slice none 0 0] 36)) := hbel.alloc (Nat.le_trans hw0 hbel.size) _
  have hlen := splitL_length_le s.data.toList
  have hlen2 : (splitB s).length ≤ 4000000000 := by
    unfold splitB; rw [List.length_map]; rw [Array.length_toList] at hlen; exact Nat.le_trans hlen hsz
  gi_wp2
  refine wpIn_rangeFunc_cell rfl h1 (gf := 119) (lb := #[.pointer (some ⟨B, 0, none⟩)]) rfl trivial (enters_of Try.func119 (by kernel_rfl) rfl)
    (lines_seq (n - 1) (by omega) B s hsz) hB1 (fun _ => rfl)
    (fun pre W => (∃ v, Boxed W w.heap.size 36 v ∧ W.ownsRow w.heap.size 9 1 v pre.length (pre.map Value.string) ∧ True) ∧ Below n₀ w0 W ∧ w.heap.size ≤ W.heap.size)
    ?own ?setB ?drew ⟨⟨_, bO, World.ownsRow_nil _ _ _ _, trivial⟩, hbel1, by simp⟩
    (fun x => { tmps := #[.slice none 0 0, .func (.func 119) #[] #[.pointer (some ⟨B, 0, none⟩)], .pointer (some ⟨w.heap.size, 0, none⟩), undef, .slice none 0 0, .string x, .func (.func 119) #[] #[.pointer (some ⟨B, 0, none⟩)], .string x, undef, undef, undef, undef, undef], defers := [] }) ?assign ?body ?done
  case own => exact OwnFrom.and (Own.from (holdsRow_own w.heap.size w.heap.size 36 9 1 (fun pre : List ByteArray => pre.length) (fun pre => pre.map Value.string) (fun _ _ => True)) _) (OwnFrom.and (ownFrom_below hw0 (by have := hbel.size; simp; omega)) (fun _ _ _ _ hs hg _ => Nat.le_trans hs hg.size))
  case setB =>
    rintro pre W v ⟨⟨u, hu, hr, _⟩, hb, hz⟩
    refine ⟨⟨u, hu.kept (grownBy_setCell' W B v) (by simp; omega), ownsRow_setCell_below hr hBlt v, trivial⟩, hb.setCell (p := ⟨B, 0, none⟩) h0B v, ?_⟩
    simpa [World.setCell] using hz
  case drew =>
    rintro pre W ⟨⟨u, hu, hr, _⟩, hb, hz⟩
    exact ⟨⟨u, hu, hr, trivial⟩, hb.drew, hz⟩
  case assign =>
    intro l x W K hK
    gi_wp2
    exact hK
  case body =>
    rintro l pre x W ⟨⟨v, hv, hrow, _⟩, hb, hz⟩ hlt
    have hc := hv.cell
    gi_wp2_with (gi_at_builtin; refine wpListIn_append_own _ rfl _ _ 36 rfl w.heap.size 9 i0 (.string ⟨#[]⟩) 1 16 Try.underlying36 hi hz0 hz1 hz2 rfl (by decide) _ _ _ rfl (hrow.alloc _) ⟨W.heap.size, 0, none⟩ 1 1 [.string x] rfl rfl (cell_one_new _ _ _) (by simp [Value.oneCell']) (by unfold maxLen; omega) (by omega) (by simp; omega) ?_; intro v' w1 hown' hgrow _; obtain ⟨g', cap', rfl⟩ := ownsRow_succ hown'; obtain ⟨hv1, hv2, hr2, hk2, hb2⟩ := hv.appended (by decide) hrow hz (Nat.le_refl _) hown' hgrow; have hc1 := hv1.cell; have hf1 := hv1.frozen)
    exact ⟨hk2.from _, hb2.block B hBlt, ⟨_, hv2, hr2⟩, hb.trans (hb2.mono (Nat.le_trans h0B (Nat.le_of_lt hBlt))), by have := hb2.size; simp [World.setCell] at this; omega⟩
  case done =>
    rintro D ys W hD rfl ⟨⟨v, hv, hrow, _⟩, hb, hz⟩ hK
    have hc := hv.cell
    gi_wp2
    refine ⟨by simp, .inl ⟨_, _, rfl, run_takeDeferred hK, ?_⟩⟩
    have hrow' := ownsRow_putObj hrow (.deferred none) hK rfl
    exact ⟨_, results_tmp rfl _ _ _, v, rfl, own_lower (Nat.le_trans h0B (Nat.le_of_lt hBlt)) hrow', hb.grown (grownBy_putObj' W D _) (Nat.le_trans hw0 hb.size) (fun k e => by cases e; simp at hD; omega)⟩
set_option maxHeartbeats 1000000 in
theorem collect_in (n : Nat) (hn : 4 ≤ n) (s : ByteArray) (hsz : s.size ≤ 4000000000) (n₀ B : Nat) (w0 w : World) (h0B : n₀ ≤ B) (hw0 : n₀ ≤ w0.heap.size) (hbel : Below n₀ w0 w) (hB : Boxed w B 9 (.string s)) :
    CallsIn Fence.wide n Try.prog 79 #[.func (.func 119) #[] #[.pointer (some ⟨B, 0, none⟩)]] w fun e W' => ∃ v, e = .returned v ∧ W'.ownsRow n₀ 9 1 v (splitB s).length ((splitB s).map Value.string) ∧ Below n₀ w0 W' := by
  refine callsIn_of_wp Try.func79 rfl trivial ?_ rfl
  simp only [Try.ntmps79, List.size_toArray, List.length_cons, List.length_nil, Nat.reduceAdd, Nat.reduceSub, Array.replicate_succ, Array.replicate_zero, List.push_toArray, List.append_toArray, List.nil_append, List.cons_append]
  have h1 : 1 ≤ n := by omega
  have hA := appendSeq_in (n - 1) (by omega) s hsz n₀ B w0 w h0B hw0 hbel hB
  have HA := Lib.hid hA
  clear hA
  gi_wp2_with (refine ⟨trivial, ?_⟩; gi_at_call 118; refine HA.out.mono ?_; rintro e w' ⟨v, rfl, hr, hb⟩)
  go_ret
  exact ⟨v, rfl, hr, hb⟩
set_option maxHeartbeats 1000000 in
theorem split_calls (s : ByteArray) (hsz : s.size ≤ 4000000000) (w : World) :
    Calls Try.prog 29 #[.string s] w fun e w' => ∃ v, e = .returned v ∧ w'.ownsRow w.heap.size 9 1 v (splitB s).length ((splitB s).map Value.string) ∧ Below w.heap.size w w' := by
  refine (callsIn_wide (n := 9)).1 ?_
  refine callsIn_of_wp Try.func29 rfl trivial ?_ rfl
  simp only [Try.ntmps29, List.size_toArray, List.length_cons, List.length_nil, Nat.reduceAdd, Nat.reduceSub, Array.replicate_succ, Array.replicate_zero, List.push_toArray, List.append_toArray, List.nil_append, List.cons_append]
  have hC := collect_in 8 (by omega) s hsz w.heap.size w.heap.size w _ (Nat.le_refl _) (Nat.le_refl _) ((Below.refl _ _).alloc (Nat.le_refl _) _) (Boxed.new w 9 (.string s))
  have HC := Lib.hid hC
  clear hC
  gi_wp2_with (refine ⟨trivial, ?_⟩; first | (gi_at_call 80; refine (lines_in 8 s w).mono ?_; rintro e w' ⟨rfl, rfl⟩) | (gi_at_call 79; refine HC.out.mono ?_; rintro e w' ⟨v, rfl, hr, hb⟩))
  go_ret
  exact ⟨v, rfl, hr, hb⟩
#print axioms split_calls
end Go.Proofs.Ytfiamddinkokbaa
end

section
set_option linter.unusedVariables false
set_option linter.unusedSimpArgs false
namespace Go.Proofs.Ytfiamddinkokbaa
open Go.RowKit Go.Shelf Go.Proofs.YtfiamddinkokbaaW.PrintWords
def cutL (c : UInt8) (l : List UInt8) : List UInt8 := l.dropWhile (· == c)
theorem cutL_eq (c : UInt8) (l : List UInt8) (k : Nat) (h : ∀ j, j < k → l[j]? = some c) (hk : ∀ x, l[k]? = some x → x ≠ c) : cutL c l = l.drop k := by
  induction k generalizing l with
  | zero =>
    cases l with
    | nil => rfl
    | cons a t => simp [cutL, hk a (by simp)]
  | succ k ih =>
    cases l with
    | nil => simp [cutL]
    | cons a t =>
      have h0 : a = c := by have := h 0 (by omega); simpa using this
      have := ih t (fun j hj => by have := h (j + 1) (by omega); simpa using this) (fun x hx => hk x (by simpa using hx))
      simp only [cutL] at this ⊢
      simp [h0, this]
theorem getElem?_byte (s : ByteArray) (k : Nat) (h : k < s.size) : s.data.toList[k]? = some s[k] := by
  rw [List.getElem?_eq_getElem (by rw [Array.length_toList]; exact h)]; rfl
theorem iterPos_of {w : World} {k p : Nat} {s : ByteArray} (h : w.heap[k]? = some (.stringIter s p)) : w.iterPos k = p := by simp [World.iterPos, h]
set_option maxRecDepth 100000 in
set_option maxHeartbeats 2000000 in
theorem cutLeft_calls (s : ByteArray) (hsz : s.size ≤ 4000000000) (c : UInt8) (hc : c.toNat < 128) (w : World) :
    Calls Try.prog 85 #[.string s, .string ⟨#[c]⟩] w fun e w' => e = .returned (.string (toB (cutL c s.data.toList))) ∧ Below w.heap.size w w' := by
  go_enter Try.func85, Try.ntmps85
  go_wp2
  go_loopw [5, 6, 7, 9] (fun _ _ _ _ wr => ∃ k : Nat, k ≤ s.size ∧ wr.heap[w.heap.size]? = some (.stringIter s k) ∧ Below w.heap.size w wr ∧ Hid (∀ j, j < k → s.data.toList[j]? = some c))
    (fun _ _ _ _ wr => s.size - wr.iterPos w.heap.size)
  case atStart => exact ⟨0, Nat.zero_le _, World.iter_heap _ _ _, (Below.refl _ _).alloc (Nat.le_refl _) _, fun j hj => by omega⟩
  case round =>
    obtain ⟨wo, rfl⟩ : ∃ wo : World, wo = wr := ⟨_, rfl⟩
    obtain ⟨k, hk, hit, hb, HC⟩ := hrel
    have HB := Lib.hid hb
    clear hb
    by_cases hlt : k < s.size
    · by_cases heq : s[k] = c
      · have hn := Lib.run_next_ascii_at (P := Try.prog) wo w.heap.size s k 0 hit hlt (by rw [heq]; exact hc)
        rw [heq] at hn
        have hit2 : (wo.iterAt w.heap.size s (k + 1)).heap[w.heap.size]? = some (.stringIter s (k + 1)) := Lib.iterAt_heap _ _ _ _ _ hit
        have HB2 : Hid (Below w.heap.size w (wo.iterAt w.heap.size s (k + 1))) := Lib.below_iterAt HB.out (Nat.le_refl _) _ _
        have hlt2 : w.heap.size < (wo.iterAt w.heap.size s (k + 1)).heap.size := (Array.getElem?_eq_some_iff.1 hit2).1
        have HM : Hid (wo.iterPos w.heap.size = k) := iterPos_of hit
        have H2 := Lib.hid (And.intro hit2 (And.intro HB2.out hlt2))
        clear hit2 HB2 hlt2 hit
        go_wp2
        obtain ⟨wm, hwm⟩ : ∃ wm : World, wm = wo.iterAt w.heap.size s (k + 1) := ⟨_, rfl⟩
        rw [← hwm] at H2 ⊢
        clear hwm hn
        go_loopw [7, 9] (fun v7 _ wr => ∃ p : Nat, p ≤ 1 ∧ wr.heap[wm.heap.size]? = some (.stringIter ⟨#[c]⟩ p) ∧ Hid (wr.heap[w.heap.size]? = some (.stringIter s (k + 1))) ∧ Hid (Below w.heap.size w wr) ∧ v7 = .bool (decide (p = 1)))
          (fun _ _ wr => 1 - wr.iterPos wm.heap.size)
        case atStart => exact ⟨0, by omega, World.iter_heap _ _ _, (Below.heap_alloc _ _ _ H2.out.2.2).trans H2.out.1, (H2.out.2.1.alloc (by have := H2.out.2.2; omega) _), by rfl⟩
        case round =>
          obtain ⟨p, hp, hit3, HI, HB3, rfl⟩ := hrel
          have hlt3 : wm.heap.size < wr.heap.size := (Array.getElem?_eq_some_iff.1 hit3).1
          by_cases hp0 : p = 0
          · subst hp0
            have hn := Lib.run_next_ascii_at (P := Try.prog) wr wm.heap.size ⟨#[c]⟩ 0 0 hit3 (by show 0 < 1; omega) hc
            have hn2 : (Instr.next (.pointer (some ⟨wm.heap.size, 0, none⟩)) true 0).run Try.prog wr = .ok (.tuple #[.bool true, .int .i64 (0 : Nat), .int .i32 c.toNat]) (wr.iterAt wm.heap.size ⟨#[c]⟩ 1) := hn
            clear hn
            have hit4 := Lib.iterAt_heap wr wm.heap.size ⟨#[c]⟩ 0 1 hit3
            have HI4 : Hid ((wr.iterAt wm.heap.size ⟨#[c]⟩ 1).heap[w.heap.size]? = some (.stringIter s (k + 1))) := (Lib.iterAt_other _ _ _ _ _ (by have := H2.out.2.2; omega)).trans HI.out
            have HB4 : Hid (Below w.heap.size w (wr.iterAt wm.heap.size ⟨#[c]⟩ 1)) := Lib.below_iterAt HB3.out (by have := H2.out.2.2; omega) _ _
            have HP4 : Hid ((wr.iterAt wm.heap.size ⟨#[c]⟩ 1).iterPos wm.heap.size = 1) := iterPos_of hit4
            have HP3 : Hid (wr.iterPos wm.heap.size = 0) := iterPos_of hit3
            have HIT4 := Lib.hid hit4
            clear hit4 hit3
            go_wp2
            go_roundw
            case rel => exact ⟨1, by omega, HIT4.out, HI4, HB4, by simp⟩
            case measure => rw [HP4.out, HP3.out]; omega
          · have hp1 : p = 1 := by omega
            subst hp1
            have hn := Lib.run_next_end_at (P := Try.prog) wr wm.heap.size ⟨#[c]⟩ 1 0 hit3 (by show ¬ 1 < 1; omega)
            clear hit3
            have HP5 : Hid (wr.iterPos w.heap.size = k + 1) := iterPos_of HI.out
            go_wp2
            go_roundw
            case rel =>
              refine ⟨k + 1, by omega, HI.out, HB3.out, fun j hj => ?_⟩
              by_cases hj2 : j < k
              · exact HC.out j hj2
              · have : j = k := by omega
                subst this
                rw [← heq]; exact getElem?_byte s j hlt
            case measure => rw [HP5.out, HM.out]; omega
      · have hn0 := Lib.run_next_any_at (P := Try.prog) wo w.heap.size s k 0 hit hlt
        have hex : ∃ r wd : Nat, r ≠ c.toNat ∧ r ≤ 2147483647 ∧ 1 ≤ wd ∧ (Instr.next (.pointer (some ⟨w.heap.size, 0, none⟩)) true 0).run Try.prog wo = .ok (.tuple #[.bool true, .int .i64 k, .int .i32 r]) (wo.iterAt w.heap.size s (k + wd)) := by
          by_cases ha : (s[k]'hlt).toNat < 128
          · have hd := decode_ascii s k hlt ha
            rw [hd] at hn0
            exact ⟨_, _, fun e => heq (UInt8.toNat_inj.1 e), by omega, Nat.le_refl _, hn0⟩
          · have hd := decode_high s k hlt (by omega)
            exact ⟨_, _, by omega, decode_le s k, hd.2, hn0⟩
        clear hn0
        obtain ⟨r, wd, hr1, hr2, hr3, hn⟩ := hex
        have hrc : ((r : Int) == (c.toNat : Int)) = false := beq_eq_false_iff_ne.2 (by omega)
        have hit2 : (wo.iterAt w.heap.size s (k + wd)).heap[w.heap.size]? = some (.stringIter s (k + wd)) := Lib.iterAt_heap _ _ _ _ _ hit
        have HB2 : Hid (Below w.heap.size w (wo.iterAt w.heap.size s (k + wd))) := Lib.below_iterAt HB.out (Nat.le_refl _) _ _
        have hlt2 : w.heap.size < (wo.iterAt w.heap.size s (k + wd)).heap.size := (Array.getElem?_eq_some_iff.1 hit2).1
        have HM : Hid (wo.iterPos w.heap.size = k) := iterPos_of hit
        have H2 := Lib.hid (And.intro hit2 (And.intro HB2.out hlt2))
        clear hit2 HB2 hlt2 hit
        go_wp2
        obtain ⟨wm, hwm⟩ : ∃ wm : World, wm = wo.iterAt w.heap.size s (k + wd) := ⟨_, rfl⟩
        rw [← hwm] at H2 ⊢
        clear hwm hn
        go_loopw [7, 9] (fun v7 _ wr => ∃ p : Nat, p ≤ 1 ∧ wr.heap[wm.heap.size]? = some (.stringIter ⟨#[c]⟩ p) ∧ Hid (wr.heap[w.heap.size]? = some (.stringIter s (k + wd))) ∧ Hid (Below w.heap.size w wr) ∧ v7 = .bool false)
          (fun _ _ wr => 1 - wr.iterPos wm.heap.size)
        case atStart => exact ⟨0, by omega, World.iter_heap _ _ _, (Below.heap_alloc _ _ _ H2.out.2.2).trans H2.out.1, (H2.out.2.1.alloc (by have := H2.out.2.2; omega) _), by rfl⟩
        case round =>
          obtain ⟨p, hp, hit3, HI, HB3, rfl⟩ := hrel
          have hlt3 : wm.heap.size < wr.heap.size := (Array.getElem?_eq_some_iff.1 hit3).1
          by_cases hp0 : p = 0
          · subst hp0
            have hn := Lib.run_next_ascii_at (P := Try.prog) wr wm.heap.size ⟨#[c]⟩ 0 0 hit3 (by show 0 < 1; omega) hc
            have hn2 : (Instr.next (.pointer (some ⟨wm.heap.size, 0, none⟩)) true 0).run Try.prog wr = .ok (.tuple #[.bool true, .int .i64 (0 : Nat), .int .i32 c.toNat]) (wr.iterAt wm.heap.size ⟨#[c]⟩ 1) := hn
            clear hn
            have hit4 := Lib.iterAt_heap wr wm.heap.size ⟨#[c]⟩ 0 1 hit3
            have HI4 : Hid ((wr.iterAt wm.heap.size ⟨#[c]⟩ 1).heap[w.heap.size]? = some (.stringIter s (k + wd))) := (Lib.iterAt_other _ _ _ _ _ (by have := H2.out.2.2; omega)).trans HI.out
            have HB4 : Hid (Below w.heap.size w (wr.iterAt wm.heap.size ⟨#[c]⟩ 1)) := Lib.below_iterAt HB3.out (by have := H2.out.2.2; omega) _ _
            have HP4 : Hid ((wr.iterAt wm.heap.size ⟨#[c]⟩ 1).iterPos wm.heap.size = 1) := iterPos_of hit4
            have HP3 : Hid (wr.iterPos wm.heap.size = 0) := iterPos_of hit3
            have HIT4 := Lib.hid hit4
            clear hit4 hit3
            go_wp2
            go_roundw
            case rel => exact ⟨1, by omega, HIT4.out, HI4, HB4, rfl⟩
            case measure => rw [HP4.out, HP3.out]; omega
          · have hp1 : p = 1 := by omega
            subst hp1
            have hn := Lib.run_next_end_at (P := Try.prog) wr wm.heap.size ⟨#[c]⟩ 1 0 hit3 (by show ¬ 1 < 1; omega)
            clear hit3
            go_wp2
            go_ret
            refine ⟨?_, HB3.out⟩
            have hend : ∀ x, s.data.toList[k]? = some x → x ≠ c := fun x hx e => by
              rw [getElem?_byte s k hlt] at hx
              exact heq ((Option.some.inj hx).trans e)
            rw [cutL_eq c s.data.toList k HC.out hend, ← Lib.extract_to_end, toB_data]
            rfl
    · have hk2 : k = s.size := by omega
      subst hk2
      have hn := Lib.run_next_end_at (P := Try.prog) wo w.heap.size s s.size 0 hit hlt
      clear hit
      go_wp2
      go_ret
      refine ⟨?_, HB.out⟩
      have hend : ∀ x, s.data.toList[s.size]? = some x → x ≠ c := fun x hx _ => by
        have := (List.getElem?_eq_some_iff.1 hx).1
        rw [Array.length_toList] at this
        exact absurd this (Nat.lt_irrefl _)
      rw [cutL_eq c s.data.toList s.size HC.out hend, List.drop_of_length_le (by rw [Array.length_toList]; exact Nat.le_refl _)]
      rfl
def isSign (c : UInt8) : Bool := c == 60 || c == 124 || c == 61 || c == 62
def runL (l : List UInt8) : Nat := match l with
  | [] => 0
  | c :: _ => if isSign c then l.length - (cutL c l).length else 0
theorem cutL_le (c : UInt8) (l : List UInt8) : (cutL c l).length ≤ l.length := by
  have := (List.dropWhile_sublist (l := l) (fun x => x == c)).length_le
  exact this
theorem sign_index (c : UInt8) : decide (0 ≤ Lib.indexByte [60, 124, 61, 62] c) = isSign c := by
  unfold isSign
  simp only [Lib.indexByte]
  by_cases h1 : c = 60
  · subst h1; decide
  · by_cases h2 : c = 124
    · subst h2; decide
    · by_cases h3 : c = 61
      · subst h3; decide
      · by_cases h4 : c = 62
        · subst h4; decide
        · simp [h1, h2, h3, h4, Ne.symm h1, Ne.symm h2, Ne.symm h3, Ne.symm h4]
set_option maxRecDepth 100000 in
set_option maxHeartbeats 2000000 in
theorem run_calls (s : ByteArray) (hsz : s.size ≤ 4000000000) (w : World) :
    Calls Try.prog 43 #[.string s] w fun e w' => e = .returned (.int .i64 (runL s.data.toList)) ∧ Below w.heap.size w w' := by
  by_cases h0 : s.size = 0
  · have hs : s = ⟨#[]⟩ := by
      have : s.data.toList = [] := List.eq_nil_of_length_eq_zero (by rw [Array.length_toList]; exact h0)
      rw [← toB_data s, this]; rfl
    subst hs
    go_enter Try.func43, Try.ntmps43
    go_wp2
    go_ret
    exact ⟨rfl, Below.refl _ _⟩
  · obtain ⟨c, t, hl⟩ : ∃ c t, s.data.toList = c :: t := by
      cases h : s.data.toList with
      | nil => exact absurd (by have := congrArg List.length h; rw [Array.length_toList] at this; exact this) h0
      | cons c t => exact ⟨c, t, rfl⟩
    have hex : s.extract 0 1 = ⟨#[c]⟩ := by
      rw [← toB_data (s.extract 0 1), Lib.extract_data, hl]; rfl
    have hne : (s.toList == ([] : List UInt8)) = false := by rw [Lib.toList_data, hl]; rfl
    have hne2 : s.toList.isEmpty = false := by rw [Lib.toList_data, hl]; rfl
    have HL := Lib.hid hl
    clear hl
    have hcon := Try.strings_Contains_one ⟨#[60, 124, 61, 62]⟩ c w
    rw [show (⟨#[60, 124, 61, 62]⟩ : ByteArray).data.toList = [60, 124, 61, 62] from rfl, sign_index] at hcon
    have hsz1 : (1 : Int) ≤ s.size := by omega
    by_cases hsg : isSign c = true
    · rw [hsg] at hcon
      have hc : c.toNat < 128 := by
        simp only [isSign, Bool.or_eq_true, beq_iff_eq] at hsg
        rcases hsg with ((rfl | rfl) | rfl) | rfl <;> decide
      have HS := Lib.hid hsg
      have HCON := Lib.hid hcon
      have hcut := cutLeft_calls s hsz c hc w
      have HCUT := Lib.hid hcut
      clear hsg hcon hcut
      go_enter Try.func43, Try.ntmps43
      go_wp2_with (first | (go_at_call 84; refine HCON.out.mono ?_; rintro e w' ⟨rfl, rfl⟩) | (go_at_call 85; refine HCUT.out.mono ?_; rintro e w' ⟨rfl, hb⟩))
      go_ret
      refine ⟨?_, hb⟩
      have e : wrap64 ((s.size : Int) - (cutL c s.data.toList).length) = ((s.data.toList.length - (cutL c s.data.toList).length : Nat) : Int) := by
        have := cutL_le c s.data.toList
        have h2 : s.data.toList.length = s.size := by rw [Array.length_toList]; rfl
        unfold wrap64; omega
      have HE := HS.out
      unfold runL
      rw [e]
      simp only [HL.out, HE, if_true]
      rfl
    · have hsg0 : isSign c = false := by simpa using hsg
      rw [hsg0] at hcon
      have HS := Lib.hid hsg0
      have HCON := Lib.hid hcon
      clear hsg hsg0 hcon
      go_enter Try.func43, Try.ntmps43
      go_wp2_with (first | (go_at_call 84; refine HCON.out.mono ?_; rintro e w' ⟨rfl, rfl⟩))
      go_ret
      refine ⟨?_, Below.refl _ _⟩
      have HE := HS.out
      unfold runL
      simp only [HL.out, HE]
      rfl
#print axioms run_calls
end Go.Proofs.Ytfiamddinkokbaa
end

section
set_option linter.unusedVariables false
set_option linter.unusedSimpArgs false
namespace Go.Proofs.Ytfiamddinkokbaa
open Go.RowKit Go.Shelf Go.Proofs.YtfiamddinkokbaaW.PrintWords
set_option linter.unusedVariables false
theorem ext_split (a0 : ByteArray) (r : List ByteArray) (w : World) (h : (if a0.size ≤ 4000000000 then some (splitB a0) else none) = some r) :
    Calls Try.prog 29 #[.string a0] w fun e w' => ∃ v0_ : Value, e = .returned (v0_) ∧ Kd.R Kd.string 9 w' w.heap.size (fun _ => True) v0_ r ∧ Below w.heap.size w w' := by
  by_cases hs : a0.size ≤ 4000000000
  · rw [if_pos hs] at h
    obtain rfl := Option.some.inj h
    refine (split_calls a0 hs w).mono ?_
    rintro e w' ⟨v, rfl, hr, hb⟩
    exact ⟨v, rfl, Kd.R_of_own hr (fun _ _ => trivial), hb⟩
  · rw [if_neg hs] at h; cases h
theorem ext_run (a0 : ByteArray) (r : Int) (w : World) (h : (if a0.size ≤ 4000000000 then some ((runL a0.data.toList : Nat) : Int) else none) = some r) :
    Calls Try.prog 43 #[.string a0] w fun e w' => e = .returned (.int .i64 r) ∧ Below w.heap.size w w' := by
  by_cases hs : a0.size ≤ 4000000000
  · rw [if_pos hs] at h
    obtain rfl := Option.some.inj h
    exact run_calls a0 hs w
  · rw [if_neg hs] at h; cases h
theorem one_byte (a : ByteArray) (h : a.size = 1) : a = ⟨#[a.data.toList.headD 0]⟩ := by
  have hl : a.data.toList.length = 1 := by rw [Array.length_toList]; exact h
  obtain ⟨c, hc⟩ : ∃ c, a.data.toList = [c] := List.length_eq_one_iff.1 hl
  rw [← toB_data a, hc]; rfl
theorem ext_contains (a0 a1 : ByteArray) (r : Bool) (w : World) (h : (if a1.size = 1 then some (decide (0 ≤ Lib.indexByte a0.data.toList (a1.data.toList.headD 0))) else none) = some r) :
    Calls Try.prog 84 #[.string a0, .string a1] w fun e w' => e = .returned (.bool r) ∧ Drawn0 w w' := by
  by_cases hs : a1.size = 1
  · rw [if_pos hs] at h
    obtain rfl := Option.some.inj h
    have := Try.strings_Contains_one a0 (a1.data.toList.headD 0) w
    rw [← one_byte a1 hs] at this
    refine this.mono ?_
    rintro e w' ⟨rfl, rfl⟩
    exact ⟨rfl, Drawn0.refl _⟩
  · rw [if_neg hs] at h; cases h
end Go.Proofs.Ytfiamddinkokbaa
end

section
set_option linter.unusedVariables false
set_option linter.unusedSimpArgs false
namespace Go.Proofs.Ytfiamddinkokbaa
open Go.RowKit Go.Shelf Go.Maps Go.Proofs.YtfiamddinkokbaaW.PrintWords
set_option linter.unusedVariables false
def numStep (kn : List (List UInt8)) (s : ByteArray) : List (List UInt8) := if s.data.toList ∈ kn then kn else kn ++ [s.data.toList]
def numOf (kn : List (List UInt8)) (s : ByteArray) : Int := (kn.idxOf s.data.toList : Nat)
def numRow : List (List UInt8) → List ByteArray → List Int
  | _, [] => []
  | kn, s :: t => numOf kn s :: numRow (numStep kn s) t
def knRow (kn : List (List UInt8)) (l : List ByteArray) : List (List UInt8) := l.foldl numStep kn
def numAll : List (List UInt8) → List (List ByteArray) → List (List Int)
  | _, [] => []
  | kn, f :: t => numRow kn f :: numAll (knRow kn f) t
def knAll (kn : List (List UInt8)) (fs : List (List ByteArray)) : List (List UInt8) := fs.foldl knRow kn
def numberB (fs : List (List ByteArray)) : List (List Int) := numAll [] fs
theorem numRow_snoc (kn : List (List UInt8)) (l : List ByteArray) (s : ByteArray) : numRow kn (l ++ [s]) = numRow kn l ++ [numOf (knRow kn l) s] := by
  induction l generalizing kn with
  | nil => rfl
  | cons a t ih => simp only [List.cons_append, numRow, knRow, List.foldl_cons]; rw [ih]; rfl
theorem knRow_snoc (kn : List (List UInt8)) (l : List ByteArray) (s : ByteArray) : knRow kn (l ++ [s]) = numStep (knRow kn l) s := by simp [knRow]
theorem numAll_snoc (kn : List (List UInt8)) (fs : List (List ByteArray)) (f : List ByteArray) : numAll kn (fs ++ [f]) = numAll kn fs ++ [numRow (knAll kn fs) f] := by
  induction fs generalizing kn with
  | nil => rfl
  | cons a t ih => simp only [List.cons_append, numAll, knAll, List.foldl_cons]; rw [ih]; rfl
theorem knAll_snoc (kn : List (List UInt8)) (fs : List (List ByteArray)) (f : List ByteArray) : knAll kn (fs ++ [f]) = knRow (knAll kn fs) f := by simp [knAll]
theorem numRow_length (kn : List (List UInt8)) (l : List ByteArray) : (numRow kn l).length = l.length := by
  induction l generalizing kn with
  | nil => rfl
  | cons a t ih => simp [numRow, ih]
theorem numAll_length (kn : List (List UInt8)) (fs : List (List ByteArray)) : (numAll kn fs).length = fs.length := by
  induction fs generalizing kn with
  | nil => rfl
  | cons a t ih => simp [numAll, ih]
def Knows (D : DataW Unit) (kn : List (List UInt8)) : Prop :=
  Maps.Tidy D ∧ Maps.size D = kn.length ∧ ∀ s : List UInt8, Maps.has D (.string s) = decide (s ∈ kn) ∧ (s ∈ kn → D.atKey (.string s) (.lit (.int .i64 0)) = .lit (.int .i64 (kn.idxOf s : Nat)))
theorem knows_nil : Knows (.map []) [] := ⟨Maps.tidy_empty, rfl, fun s => ⟨by simp [Maps.has], fun h => by simp at h⟩⟩
theorem knows_put {D : DataW Unit} {kn : List (List UInt8)} (h : Knows D kn) (s : List UInt8) (hs : s ∉ kn) : Knows (D.put (.string s) (.lit (.int .i64 (kn.length : Nat)))) (kn ++ [s]) := by
  obtain ⟨h1, h2, h3⟩ := h
  have hh := (h3 s).1
  rw [decide_eq_false hs] at hh
  have hk : WideAt.IsKeyLit (.string s) := trivial
  refine ⟨h1.put hk _, ?_, fun t => ?_⟩
  · rw [Maps.size_put h1, hh, h2]; simp
  · by_cases ht : t = s
    · subst ht
      refine ⟨?_, fun _ => ?_⟩
      · rw [Maps.has_put_same h1.isMap hk]; simp
      · rw [Maps.atKey_put_same h1.isMap hk]
        rw [List.idxOf_append, if_neg hs]; simp
    · have hne : (Lit.string t) ≠ .string s := fun e => ht (by injection e)
      refine ⟨?_, fun hm => ?_⟩
      · rw [Maps.has_put_other hne, (h3 t).1]; simp [ht]
      · rw [Maps.atKey_put_other hne]
        have hm' : t ∈ kn := by simpa [ht] using hm
        rw [(h3 t).2 hm', List.idxOf_append, if_pos hm']
theorem num_keyed : Maps.Keyed Try.prog 9 := Maps.string_keyed Try.underlying9
theorem num_zero (w : World) : (zeroValue 3).run Try.prog w = .ok (.int .i64 0) w := by kernel_rfl
theorem num_info3 : (Try.prog.info? 3).map (fun i => (i.zero, i.size, i.bytes)) = some (some (.int .i64 0), 1, 8) := by kernel_rfl
theorem num_info50 : (Try.prog.info? 50).map (fun i => (i.zero, i.size, i.bytes)) = some (some (.slice none 0 0), 1, 24) := by kernel_rfl
def total (fs : List (List ByteArray)) : Nat := (fs.map List.length).sum
set_option maxRecDepth 100000 in
set_option maxHeartbeats 4000000 in
theorem number_calls (A0 : Option Addr) (c0 : Nat) (l0 : List (List ByteArray)) (w : World) (hr0 : Kd.C (Kd.slice 9 Kd.string) w A0 l0.length l0) (hc0 : l0.length ≤ c0) (hsz : ∀ f ∈ l0, ∀ s ∈ f, s.size ≤ 4000000000) (ht : total l0 ≤ 4000000000) (hl0 : l0.length ≤ 4000000000) :
    Calls Try.prog 38 #[.slice A0 l0.length c0] w fun e w' => ∃ v0_ : Value, e = .returned (v0_) ∧ Kd.S (Kd.slice 3 (Kd.int .i64)) 50 w' w.heap.size (fun _ => True) v0_ (numberB l0) ∧ Below w.heap.size w w' := by
  have hmm := @run_makeMap Try.prog
  go_enter Try.func38, Try.ntmps38
  go_wp2
  go_loopw [4, 15] (fun v4 v15 wr => ∃ i : Nat, i ≤ l0.length ∧ v15 = .int .i64 i ∧ Aside0 (Kd.S (Kd.slice 3 (Kd.int .i64)) 50 wr w.heap.size (fun k => k ≠ w.heap.size) v4 (numAll [] (l0.take i))) ∧ Aside0 (∃ D : DataW Unit, wr.ownsMap Try.prog 9 (plainElem Try.prog 3) w.heap.size (total (l0.take i)) D ∧ Knows D (knAll [] (l0.take i))) ∧ Aside0 (Below w.heap.size w wr))
    (fun _ v15 _ => l0.length - (intOf v15).toNat)
  case atStart =>
    exact ⟨0, Nat.zero_le _, rfl, ⟨Kd.S_nil _ _ _ _ _⟩, ⟨.map [], World.ownsMap_made _ _ _ _, knows_nil⟩, ⟨(Below.refl _ _).alloc (Nat.le_refl _) _⟩⟩
  case round =>
    obtain ⟨i, hi, rfl, HS, HM, HB⟩ := hrel
    by_cases hlt : i < l0.length
    · obtain ⟨f, hf⟩ : ∃ f, l0[i]? = some f := ⟨_, List.getElem?_eq_getElem hlt⟩
      obtain ⟨ad, rfl, hc⟩ := hr0.2.2 (by omega)
      obtain ⟨c, hcl, hck, hcell⟩ := hc i f hf
      obtain ⟨Ai, ci, rfl, hfc, hfr⟩ := hck
      have hcw : w.cell? (ad.add i) = some (.slice Ai f.length ci) := by
        have := hcell 0 _ rfl
        simpa [show (Kd.slice 9 Kd.string).sz = 1 from rfl] using this
      have hcr : wr.cell? (ad.add i) = some (.slice Ai f.length ci) := (HB.out.cell (World.block_lt_of_cell? w _ hcw)).trans hcw
      have htk : l0.take (i + 1) = l0.take i ++ [f] := by rw [List.take_add_one, hf]; rfl
      have hft : total (l0.take i) + f.length ≤ total l0 := by
        have h1 : total (l0.take (i + 1)) = total (l0.take i) + f.length := by rw [htk]; simp [total]
        have h2 : total (l0.take (i + 1)) + total (l0.drop (i + 1)) = total l0 := by
          unfold total; rw [← List.sum_append, ← List.map_append, List.take_append_drop]
        omega
      have HTK := Lib.hid htk
      have HC := Lib.hid hc
      have HF := Lib.hid hf
      have HCELL := Lib.hid hcell
      have HFR := Aside0.mk hfr
      have HW := Aside0.mk hcw
      have hl1 : ((l0.take i).map List.length).sum = total (l0.take i) := rfl
      clear htk hc hf hcell hfr hcw hl1
      go_wp2
      obtain ⟨wo, rfl⟩ : ∃ wo : World, wo = wr := ⟨_, rfl⟩
      go_loopw [7, 21] (fun v7 v21 wr => ∃ j : Nat, j ≤ f.length ∧ v21 = .int .i64 j ∧ Aside0 (Kd.R (Kd.int .i64) 3 wr w.heap.size (fun k => k ≠ w.heap.size) v7 (numRow (knAll [] (l0.take i)) (f.take j))) ∧
          Aside0 (Kd.S (Kd.slice 3 (Kd.int .i64)) 50 wr w.heap.size (fun k => k ≠ w.heap.size ∧ some k ≠ v7.ownBlock) u4 (numAll [] (l0.take i))) ∧
          Aside0 (∃ D : DataW Unit, wr.ownsMap Try.prog 9 (plainElem Try.prog 3) w.heap.size (total (l0.take i) + j) D ∧ Knows D (knRow (knAll [] (l0.take i)) (f.take j))) ∧ Aside0 (Below w.heap.size w wr))
        (fun _ v21 _ => f.length - (intOf v21).toNat)
      case atStart =>
        exact ⟨0, Nat.zero_le _, rfl, ⟨Kd.R_nil _ _ _ _ _⟩, ⟨Kd.S_mono HS.out (fun k hk => ⟨hk, by simp [Value.ownBlock]⟩)⟩, HM, HB⟩
      case round =>
        obtain ⟨j, hj, rfl, HR, HS2, HM2, HB2⟩ := hrel
        by_cases hjt : j < f.length
        · obtain ⟨s, hs⟩ : ∃ s, f[j]? = some s := ⟨_, List.getElem?_eq_getElem hjt⟩
          have hss : s.size ≤ 4000000000 := hsz f (List.mem_of_getElem? HF.out) s (List.mem_of_getElem? hs)
          obtain ⟨adi, rfl, hci⟩ := HFR.out.2.2 (by omega)
          obtain ⟨ci2, _, hck2, hcell2⟩ := hci j s hs
          have hck3 : ci2 = [Value.string s] := hck2
          subst hck3
          have hsw : w.cell? (adi.add j) = some (.string s) := by
            have := hcell2 0 _ rfl
            simpa [show (Kd.string).sz = 1 from rfl] using this
          have hsr : wr.cell? (adi.add j) = some (.string s) := (HB2.out.cell (World.block_lt_of_cell? w _ hsw)).trans hsw
          have hcr2 : wr.cell? (ad.add i) = some (.slice (some adi) f.length ci) := (HB2.out.cell (World.block_lt_of_cell? w _ HW.out)).trans HW.out
          have htj : f.take (j + 1) = f.take j ++ [s] := by rw [List.take_add_one, hs]; rfl
          have HTJ := Lib.hid htj
          have HSS := Lib.hid hs
          obtain ⟨D, hown, hkn⟩ := HM2.out
          have HKN := Aside0.mk hkn
          have hkey := WideMaps.keyOf_string_mk (P := Try.prog) Try.underlying9 (s := s) (by unfold maxLen; omega)
          have hnew : w.heap.size < wr.heap.size := hown.lt
          by_cases hm : s.data.toList ∈ knRow (knAll [] (l0.take i)) (f.take j)
          · have hhas : Maps.has D (.string s.data.toList) = true := by rw [(hkn.2.2 _).1]; exact decide_eq_true hm
            have HAT := Lib.hid ((hkn.2.2 _).2 hm)
            have HMEM := Lib.hid hm
            clear htj hs hsw hci hcell2 hck2 hkn hm
            have hne : some w.heap.size ≠ u7.ownBlock := fun e => HR.out.1 _ e.symm rfl
            have hrl : (numRow (knAll [] (l0.take i)) (f.take j)).length ≤ 4000000000 := by rw [numRow_length, List.length_take]; omega
            go_wp2_with (first | (at_lookup; refine wpList_lookup_own_ok_int _ rfl _ _ 119 rfl 9 3 .i64 num_keyed Try.underlying119 Try.underlying3 (num_zero _) w.heap.size _ D rfl hown _ _ rfl hkey ?_; intro c hat hwc; rw [HAT.out] at hat; injection hat with hat; injection hat with _ hat; have HCC := Lib.hid hat; clear hat hwc) | (at_builtin; refine Kd.R_append (Kd.int .i64) (w0 := w) w.heap.size rfl (.tmp 38) (.tmp 40) 50 3 (.int .i64 0) 8 rfl Try.underlying50 num_info3 rfl (by decide) (by omega) u7 (numRow (knAll [] (l0.take i)) (f.take j)) c [.int .i64 c] (fun k => k ≠ w.heap.size) (fun _ => False) rfl rfl rfl (fun _ hk => hk.elim) (fun k hk => by omega) HR.out HB2.out HB2.out.size (by omega) ?_; intro v1 w1 ho hb hg hat; have HO := Aside0.mk ho; have HB3 := Aside0.mk hb; have HS3 := Aside0.mk (Kd.S_after HS2.out hg hat); have HM3 := Aside0.mk (hown.kept hg hne); clear ho hb hg hat))
            go_roundw
            case rel =>
              refine ⟨j + 1, by omega, by go_num, ⟨?_⟩, HS3, ⟨D, ?_, ?_⟩, HB3⟩
              · rw [HTJ.out, numRow_snoc, numOf, HCC.out]; exact HO.out
              · exact HM3.out.mono (by omega)
              · rw [HTJ.out, knRow_snoc, numStep, if_pos HMEM.out]; exact HKN.out
            case measure => simp [intOf]; omega
          · have hhas : Maps.has D (.string s.data.toList) = false := by rw [(hkn.2.2 _).1]; exact decide_eq_false hm
            have hsize := hkn.2.1
            have hput := Aside0.mk (knows_put hkn _ hm)
            have HMEM := Lib.hid hm
            have hknl : (knRow (knAll [] (l0.take i)) (f.take j)).length ≤ total (l0.take i) + j := by
              rw [← hsize]; exact hown.size_le
            have hszb : Maps.size D ≤ 4000000000 := by omega
            have HSZ := Lib.hid hsize
            have hwf : (Lit.int .i64 (Maps.size D : Int)).wf = true := WalkArith.wf_i64 (by omega)
            clear htj hs hsw hci hcell2 hck2 hkn hm hsize
            have hne : some w.heap.size ≠ u7.ownBlock := fun e => HR.out.1 _ e.symm rfl
            have hrl : (numRow (knAll [] (l0.take i)) (f.take j)).length ≤ 4000000000 := by rw [numRow_length, List.length_take]; omega
            go_wp2_with (first | (at_lookup; refine wpList_lookup_own_ok_int _ rfl _ _ 119 rfl 9 3 .i64 num_keyed Try.underlying119 Try.underlying3 (num_zero _) w.heap.size _ D rfl hown _ _ rfl hkey ?_; intro c hat hwc; clear hat hwc) | (at_len; refine wpList_len_own _ rfl _ 119 rfl 9 3 Try.underlying119 (plainElem Try.prog 3) w.heap.size _ D rfl hown ?_) | (at_mapUpdate; refine wpList_mapUpdate_own _ rfl _ _ _ 119 rfl 9 3 num_keyed Try.underlying119 (plainElem Try.prog 3) w.heap.size _ D rfl hown (by unfold maxLen; omega) _ _ _ rfl rfl hkey _ [] (plainElem_int Try.underlying3 hwf) ?_; intro w5 hown5 hgrow5; have HM5 := Aside0.mk hown5; have HR5 := Aside0.mk (Kd.R_grown HR.out hgrow5 (fun k hk e => hk (Option.some.inj e))); have HS5 := Aside0.mk (Kd.S_grown HS2.out hgrow5 (fun k hk e => hk.1 (Option.some.inj e))); have HB5 := Aside0.mk (HB2.out.grown hgrow5 HB2.out.size (fun k e => by cases e; exact Nat.le_refl _)); have hnew5 := hown5.lt; clear hown5 hgrow5) | (at_builtin; refine Kd.R_append (Kd.int .i64) (w0 := w) w.heap.size rfl (.tmp 38) (.tmp 40) 50 3 (.int .i64 0) 8 rfl Try.underlying50 num_info3 rfl (by decide) (by omega) u7 (numRow (knAll [] (l0.take i)) (f.take j)) (Maps.size D : Int) [.int .i64 (Maps.size D : Int)] (fun k => k ≠ w.heap.size) (fun _ => False) rfl rfl rfl (fun _ hk => hk.elim) (fun k hk => by omega) HR5.out HB5.out HB5.out.size (by omega) ?_; intro v1 w1 ho hb hg hat; have HO := Aside0.mk ho; have HB3 := Aside0.mk hb; have HS3 := Aside0.mk (Kd.S_after HS5.out hg hat); have HM3 := Aside0.mk (HM5.out.kept hg hne); clear ho hb hg hat))
            go_roundw
            case rel =>
              refine ⟨j + 1, by omega, by go_num, ⟨?_⟩, HS3, ⟨_, HM3.out, ?_⟩, HB3⟩
              · rw [HTJ.out, numRow_snoc, numOf, List.idxOf_eq_length HMEM.out, ← HSZ.out]; exact HO.out
              · rw [HTJ.out, knRow_snoc, numStep, if_neg HMEM.out, HSZ.out]; exact hput.out
            case measure => simp [intOf]; omega
        · have hjf : j = f.length := by omega
          subst hjf
          rw [List.take_length] at HR HM2
          obtain ⟨Ao, co, eo⟩ := Kd.R_slice HR.out
          subst eo
          obtain ⟨D, hown, hkn⟩ := HM2.out
          have HKN := Aside0.mk hkn
          have hne : some w.heap.size ≠ u4.ownBlock := fun e => ((Kd.S_R HS2.out).1 _ e.symm).1 rfl
          have hol : (numAll [] (l0.take i)).length ≤ 4000000000 := by rw [numAll_length, List.length_take]; omega
          have HP := Aside0.mk (show (Kd.slice 3 (Kd.int .i64)).M wr w.heap.size (fun k => some k = (Value.slice Ao (numRow (knAll [] (l0.take i)) f).length co).ownBlock) (numRow (knAll [] (l0.take i)) f) [.slice Ao (numRow (knAll [] (l0.take i)) f).length co] from ⟨_, rfl, fun k hk => hk.symm, HR.out.2⟩)
          have HK := Aside0.mk (show ∀ k, some k = (Value.slice Ao (numRow (knAll [] (l0.take i)) f).length co).ownBlock → k ≠ w.heap.size ∧ some k ≠ u4.ownBlock from fun k hk => ⟨HR.out.1 k hk.symm, fun e => ((Kd.S_R HS2.out).1 k e.symm).2 hk⟩)
          have HO5 := Aside0.mk (Kd.S_mono HS2.out (ok' := fun k => k ≠ w.heap.size ∧ ¬ (some k = (Value.slice Ao (numRow (knAll [] (l0.take i)) f).length co).ownBlock)) (fun k hk => ⟨hk.1, fun e => hk.2 e⟩))
          have hnew : w.heap.size < wr.heap.size := hown.lt
          clear hkn
          go_wp2_with (at_builtin; refine Kd.S_append (Kd.slice 3 (Kd.int .i64)) (w0 := w) w.heap.size rfl (.tmp 43) (.tmp 45) 43 50 (.slice none 0 0) 24 rfl Try.underlying43 num_info50 rfl (by decide) (by omega) u4 (numAll [] (l0.take i)) (numRow (knAll [] (l0.take i)) f) [.slice Ao (numRow (knAll [] (l0.take i)) f).length co] (fun k => k ≠ w.heap.size) (fun k => some k = (Value.slice Ao (numRow (knAll [] (l0.take i)) f).length co).ownBlock) rfl rfl HP.out HK.out (fun k hk => by omega) HO5.out HB2.out HB2.out.size (by omega) ?_; intro v1 w1 ho hb hg hat; have HO := Aside0.mk ho; have HB3 := Aside0.mk hb; have HM3 := Aside0.mk (hown.kept hg hne); clear ho hb hg hat)
          go_roundw
          case rel =>
            refine ⟨i + 1, by omega, by go_num, ⟨?_⟩, ⟨D, ?_, ?_⟩, HB3⟩
            · rw [HTK.out, numAll_snoc]; exact HO.out
            · rw [HTK.out]; simpa [total] using HM3.out
            · rw [HTK.out, knAll_snoc]; exact HKN.out
          case measure => simp [intOf]; omega
    · have hil : i = l0.length := by omega
      subst hil
      rw [List.take_length] at HS HM
      go_wp2
      go_ret
      exact ⟨_, rfl, Kd.S_mono HS.out (fun _ _ => trivial), HB.out⟩
#print axioms number_calls
end Go.Proofs.Ytfiamddinkokbaa
end

section
set_option linter.unusedVariables false
set_option linter.unusedSimpArgs false
namespace Go.Proofs.Ytfiamddinkokbaa.F
open Go.RowKit Go.Proofs.YtfiamddinkokbaaW.PrintWords Go.Proofs.YtfiamddinkokbaaW.PrintLast Go.Proofs.YtfiamddinkokbaaW.PrintMore
attribute [local go_sem] max2_int min2_int max_two min_two max_three min_three max_four min_four
set_option linter.unusedVariables false
set_option linter.unusedSimpArgs false
def errW : Option Int → Value
  | none => .nilIface
  | some c => .iface 0 (.int .i64 c)
theorem errW_none : errW none = .nilIface := rfl
theorem errW_some (c : Int) : errW (some c) = .iface 0 (.int .i64 c) := rfl
theorem info9 : (Try.prog.info? 9).map (fun i => (i.zero, i.size, i.bytes)) = some (some (.string ⟨#[]⟩), 1, 16) := by kernel_rfl
theorem info106 : (Try.prog.info? 106).map (fun i => (i.zero, i.size, i.bytes)) = some (some (.agg #[(.string ⟨#[]⟩), (.string ⟨#[]⟩), (.string ⟨#[]⟩), (.bool false), (.string ⟨#[]⟩), (.string ⟨#[]⟩), (.string ⟨#[]⟩), (.string ⟨#[]⟩), (.bool false)]), 9, 128) := by kernel_rfl
theorem info109 : (Try.prog.info? 109).map (fun i => (i.zero, i.size, i.bytes)) = some (some (.agg #[(.string ⟨#[]⟩), (.string ⟨#[]⟩), (.string ⟨#[]⟩), (.bool false), (.string ⟨#[]⟩), (.string ⟨#[]⟩), (.string ⟨#[]⟩), (.string ⟨#[]⟩), (.bool false)]), 9, 128) := by kernel_rfl
def rd_L1 (xs : List (List ByteArray)) (i : Int) : (List ByteArray) := xs.getD i.toNat ([] : List ByteArray)
theorem at_L1 {w : World} {A : Option Addr} {n : Nat} {xs : List (List ByteArray)} (h : Kd.C (Kd.slice 9 Kd.string) w A n xs) (i : Int) (h0 : 0 ≤ i) (h1 : i < n) : ∃ ad A0 c0, A = some ad ∧ w.cell? (ad.add i.toNat) = some (.slice A0 (rd_L1 xs i).length c0) ∧ (rd_L1 xs i).length ≤ c0 ∧ Kd.string.C w A0 (rd_L1 xs i).length (rd_L1 xs i) := by
  obtain ⟨ad, c, e, _, hK, hc0⟩ := Kd.C_get h ([] : List ByteArray) i h0 h1
  have hc : ∀ j u, c[j]? = some u → w.cell? (ad.add (i.toNat * 1 + j)) = some u := hc0
  obtain ⟨A0, c0, rfl, l0, g0⟩ := hK
  exact ⟨ad, A0, c0, e, by have hq := hc 0 _ rfl; rwa [Nat.mul_one, Nat.add_zero] at hq, l0, g0⟩
structure S84 where
  f0 : ByteArray
  f1 : ByteArray
  f2 : ByteArray
def z84 : S84 := ⟨(⟨#[]⟩ : ByteArray), (⟨#[]⟩ : ByteArray), (⟨#[]⟩ : ByteArray)⟩
def k84 : Kd S84 := Kd.iso (Kd.pair Kd.string (Kd.pair Kd.string Kd.string)) (fun x : S84 => (x.f0, x.f1, x.f2))
theorem k84_open {w : World} {x : S84} {cs : List Value} (h : k84.K w x cs) : cs = [.string x.f0, .string x.f1, .string x.f2] := by
  obtain ⟨_, _, rfl, rfl, ⟨_, _, rfl, rfl, rfl⟩⟩ := h
  exact rfl
theorem k84_openM {w : World} {base : Nat} {ok : Nat → Prop} {x : S84} {cs : List Value} (h : k84.M w base ok x cs) : cs = [.string x.f0, .string x.f1, .string x.f2] := by
  obtain ⟨_, _, rfl, rfl, ⟨_, _, rfl, rfl, rfl⟩⟩ := h
  exact rfl
theorem k84_mkM (w : World) (base : Nat) (ok : Nat → Prop) (x : S84)  : k84.M w base ok x [.string x.f0, .string x.f1, .string x.f2] := ⟨[.string x.f0], [.string x.f1, .string x.f2], rfl, rfl, ⟨[.string x.f1], [.string x.f2], rfl, rfl, rfl⟩⟩
structure S106 where
  f0 : S84
  f1 : Bool
  f2 : ByteArray
  f3 : ByteArray
  f4 : ByteArray
  f5 : ByteArray
  f6 : Bool
def z106 : S106 := ⟨z84, false, (⟨#[]⟩ : ByteArray), (⟨#[]⟩ : ByteArray), (⟨#[]⟩ : ByteArray), (⟨#[]⟩ : ByteArray), false⟩
def k106 : Kd S106 := Kd.iso (Kd.pair k84 (Kd.pair Kd.bool (Kd.pair Kd.string (Kd.pair Kd.string (Kd.pair Kd.string (Kd.pair Kd.string Kd.bool)))))) (fun x : S106 => (x.f0, x.f1, x.f2, x.f3, x.f4, x.f5, x.f6))
theorem k106_open {w : World} {x : S106} {cs : List Value} (h : k106.K w x cs) : cs = [.string x.f0.f0, .string x.f0.f1, .string x.f0.f2, .bool x.f1, .string x.f2, .string x.f3, .string x.f4, .string x.f5, .bool x.f6] := by
  obtain ⟨_, _, rfl, s0, ⟨_, _, rfl, rfl, ⟨_, _, rfl, rfl, ⟨_, _, rfl, rfl, ⟨_, _, rfl, rfl, ⟨_, _, rfl, rfl, rfl⟩⟩⟩⟩⟩⟩ := h
  obtain rfl := k84_open s0
  exact rfl
theorem k106_openM {w : World} {base : Nat} {ok : Nat → Prop} {x : S106} {cs : List Value} (h : k106.M w base ok x cs) : cs = [.string x.f0.f0, .string x.f0.f1, .string x.f0.f2, .bool x.f1, .string x.f2, .string x.f3, .string x.f4, .string x.f5, .bool x.f6] := by
  obtain ⟨_, _, rfl, s0, ⟨_, _, rfl, rfl, ⟨_, _, rfl, rfl, ⟨_, _, rfl, rfl, ⟨_, _, rfl, rfl, ⟨_, _, rfl, rfl, rfl⟩⟩⟩⟩⟩⟩ := h
  obtain rfl := k84_openM s0
  exact rfl
theorem k106_mkM (w : World) (base : Nat) (ok : Nat → Prop) (x : S106)  : k106.M w base ok x [.string x.f0.f0, .string x.f0.f1, .string x.f0.f2, .bool x.f1, .string x.f2, .string x.f3, .string x.f4, .string x.f5, .bool x.f6] := ⟨[.string x.f0.f0, .string x.f0.f1, .string x.f0.f2], [.bool x.f1, .string x.f2, .string x.f3, .string x.f4, .string x.f5, .bool x.f6], rfl, (k84_mkM w base ok x.f0 ), ⟨[.bool x.f1], [.string x.f2, .string x.f3, .string x.f4, .string x.f5, .bool x.f6], rfl, rfl, ⟨[.string x.f2], [.string x.f3, .string x.f4, .string x.f5, .bool x.f6], rfl, rfl, ⟨[.string x.f3], [.string x.f4, .string x.f5, .bool x.f6], rfl, rfl, ⟨[.string x.f4], [.string x.f5, .bool x.f6], rfl, rfl, ⟨[.string x.f5], [.bool x.f6], rfl, rfl, rfl⟩⟩⟩⟩⟩⟩
def rd_T106 (xs : List S106) (i : Int) : S106 := xs.getD i.toNat z106
theorem at_T106 {w : World} {A : Option Addr} {n : Nat} {xs : List S106} (h : Kd.C k106 w A n xs) (i : Int) (h0 : 0 ≤ i) (h1 : i < n) : ∃ ad , A = some ad ∧ w.cell? (ad.add (i.toNat * 9)) = some (.string (rd_T106 xs i).f0.f0) ∧ w.cell? ⟨(ad.add (i.toNat * 9)).block, (ad.add (i.toNat * 9)).off + 1, none⟩ = some (.string (rd_T106 xs i).f0.f1) ∧ w.cell? ⟨(ad.add (i.toNat * 9)).block, (ad.add (i.toNat * 9)).off + 2, none⟩ = some (.string (rd_T106 xs i).f0.f2) ∧ w.cell? ⟨(ad.add (i.toNat * 9)).block, (ad.add (i.toNat * 9)).off + 3, none⟩ = some (.bool (rd_T106 xs i).f1) ∧ w.cell? ⟨(ad.add (i.toNat * 9)).block, (ad.add (i.toNat * 9)).off + 4, none⟩ = some (.string (rd_T106 xs i).f2) ∧ w.cell? ⟨(ad.add (i.toNat * 9)).block, (ad.add (i.toNat * 9)).off + 5, none⟩ = some (.string (rd_T106 xs i).f3) ∧ w.cell? ⟨(ad.add (i.toNat * 9)).block, (ad.add (i.toNat * 9)).off + 6, none⟩ = some (.string (rd_T106 xs i).f4) ∧ w.cell? ⟨(ad.add (i.toNat * 9)).block, (ad.add (i.toNat * 9)).off + 7, none⟩ = some (.string (rd_T106 xs i).f5) ∧ w.cell? ⟨(ad.add (i.toNat * 9)).block, (ad.add (i.toNat * 9)).off + 8, none⟩ = some (.bool (rd_T106 xs i).f6) := by
  obtain ⟨ad, c, e, _, hK, hc0⟩ := Kd.C_get h z106 i h0 h1
  have hc : ∀ j u, c[j]? = some u → w.cell? (ad.add (i.toNat * 9 + j)) = some u := hc0
  obtain rfl := k106_open hK
  exact ⟨ad, e, hc 0 _ rfl, by rw [← add_field _ _ 1 (by omega)]; exact hc 1 _ rfl, by rw [← add_field _ _ 2 (by omega)]; exact hc 2 _ rfl, by rw [← add_field _ _ 3 (by omega)]; exact hc 3 _ rfl, by rw [← add_field _ _ 4 (by omega)]; exact hc 4 _ rfl, by rw [← add_field _ _ 5 (by omega)]; exact hc 5 _ rfl, by rw [← add_field _ _ 6 (by omega)]; exact hc 6 _ rfl, by rw [← add_field _ _ 7 (by omega)]; exact hc 7 _ rfl, by rw [← add_field _ _ 8 (by omega)]; exact hc 8 _ rfl⟩
structure S109 where
  f0 : ByteArray
  f1 : ByteArray
  f2 : ByteArray
  f3 : Bool
  f4 : ByteArray
  f5 : ByteArray
  f6 : ByteArray
  f7 : ByteArray
  f8 : Bool
def z109 : S109 := ⟨(⟨#[]⟩ : ByteArray), (⟨#[]⟩ : ByteArray), (⟨#[]⟩ : ByteArray), false, (⟨#[]⟩ : ByteArray), (⟨#[]⟩ : ByteArray), (⟨#[]⟩ : ByteArray), (⟨#[]⟩ : ByteArray), false⟩
def k109 : Kd S109 := Kd.iso (Kd.pair Kd.string (Kd.pair Kd.string (Kd.pair Kd.string (Kd.pair Kd.bool (Kd.pair Kd.string (Kd.pair Kd.string (Kd.pair Kd.string (Kd.pair Kd.string Kd.bool)))))))) (fun x : S109 => (x.f0, x.f1, x.f2, x.f3, x.f4, x.f5, x.f6, x.f7, x.f8))
theorem k109_open {w : World} {x : S109} {cs : List Value} (h : k109.K w x cs) : cs = [.string x.f0, .string x.f1, .string x.f2, .bool x.f3, .string x.f4, .string x.f5, .string x.f6, .string x.f7, .bool x.f8] := by
  obtain ⟨_, _, rfl, rfl, ⟨_, _, rfl, rfl, ⟨_, _, rfl, rfl, ⟨_, _, rfl, rfl, ⟨_, _, rfl, rfl, ⟨_, _, rfl, rfl, ⟨_, _, rfl, rfl, ⟨_, _, rfl, rfl, rfl⟩⟩⟩⟩⟩⟩⟩⟩ := h
  exact rfl
theorem k109_openM {w : World} {base : Nat} {ok : Nat → Prop} {x : S109} {cs : List Value} (h : k109.M w base ok x cs) : cs = [.string x.f0, .string x.f1, .string x.f2, .bool x.f3, .string x.f4, .string x.f5, .string x.f6, .string x.f7, .bool x.f8] := by
  obtain ⟨_, _, rfl, rfl, ⟨_, _, rfl, rfl, ⟨_, _, rfl, rfl, ⟨_, _, rfl, rfl, ⟨_, _, rfl, rfl, ⟨_, _, rfl, rfl, ⟨_, _, rfl, rfl, ⟨_, _, rfl, rfl, rfl⟩⟩⟩⟩⟩⟩⟩⟩ := h
  exact rfl
theorem k109_mk (w : World) (x : S109)  : k109.K w x [.string x.f0, .string x.f1, .string x.f2, .bool x.f3, .string x.f4, .string x.f5, .string x.f6, .string x.f7, .bool x.f8] := ⟨[.string x.f0], [.string x.f1, .string x.f2, .bool x.f3, .string x.f4, .string x.f5, .string x.f6, .string x.f7, .bool x.f8], rfl, rfl, ⟨[.string x.f1], [.string x.f2, .bool x.f3, .string x.f4, .string x.f5, .string x.f6, .string x.f7, .bool x.f8], rfl, rfl, ⟨[.string x.f2], [.bool x.f3, .string x.f4, .string x.f5, .string x.f6, .string x.f7, .bool x.f8], rfl, rfl, ⟨[.bool x.f3], [.string x.f4, .string x.f5, .string x.f6, .string x.f7, .bool x.f8], rfl, rfl, ⟨[.string x.f4], [.string x.f5, .string x.f6, .string x.f7, .bool x.f8], rfl, rfl, ⟨[.string x.f5], [.string x.f6, .string x.f7, .bool x.f8], rfl, rfl, ⟨[.string x.f6], [.string x.f7, .bool x.f8], rfl, rfl, ⟨[.string x.f7], [.bool x.f8], rfl, rfl, rfl⟩⟩⟩⟩⟩⟩⟩⟩
theorem k109_mkM (w : World) (base : Nat) (ok : Nat → Prop) (x : S109)  : k109.M w base ok x [.string x.f0, .string x.f1, .string x.f2, .bool x.f3, .string x.f4, .string x.f5, .string x.f6, .string x.f7, .bool x.f8] := ⟨[.string x.f0], [.string x.f1, .string x.f2, .bool x.f3, .string x.f4, .string x.f5, .string x.f6, .string x.f7, .bool x.f8], rfl, rfl, ⟨[.string x.f1], [.string x.f2, .bool x.f3, .string x.f4, .string x.f5, .string x.f6, .string x.f7, .bool x.f8], rfl, rfl, ⟨[.string x.f2], [.bool x.f3, .string x.f4, .string x.f5, .string x.f6, .string x.f7, .bool x.f8], rfl, rfl, ⟨[.bool x.f3], [.string x.f4, .string x.f5, .string x.f6, .string x.f7, .bool x.f8], rfl, rfl, ⟨[.string x.f4], [.string x.f5, .string x.f6, .string x.f7, .bool x.f8], rfl, rfl, ⟨[.string x.f5], [.string x.f6, .string x.f7, .bool x.f8], rfl, rfl, ⟨[.string x.f6], [.string x.f7, .bool x.f8], rfl, rfl, ⟨[.string x.f7], [.bool x.f8], rfl, rfl, rfl⟩⟩⟩⟩⟩⟩⟩⟩
def rd_T109 (xs : List S109) (i : Int) : S109 := xs.getD i.toNat z109
theorem at_T109 {w : World} {A : Option Addr} {n : Nat} {xs : List S109} (h : Kd.C k109 w A n xs) (i : Int) (h0 : 0 ≤ i) (h1 : i < n) : ∃ ad , A = some ad ∧ w.cell? (ad.add (i.toNat * 9)) = some (.string (rd_T109 xs i).f0) ∧ w.cell? ⟨(ad.add (i.toNat * 9)).block, (ad.add (i.toNat * 9)).off + 1, none⟩ = some (.string (rd_T109 xs i).f1) ∧ w.cell? ⟨(ad.add (i.toNat * 9)).block, (ad.add (i.toNat * 9)).off + 2, none⟩ = some (.string (rd_T109 xs i).f2) ∧ w.cell? ⟨(ad.add (i.toNat * 9)).block, (ad.add (i.toNat * 9)).off + 3, none⟩ = some (.bool (rd_T109 xs i).f3) ∧ w.cell? ⟨(ad.add (i.toNat * 9)).block, (ad.add (i.toNat * 9)).off + 4, none⟩ = some (.string (rd_T109 xs i).f4) ∧ w.cell? ⟨(ad.add (i.toNat * 9)).block, (ad.add (i.toNat * 9)).off + 5, none⟩ = some (.string (rd_T109 xs i).f5) ∧ w.cell? ⟨(ad.add (i.toNat * 9)).block, (ad.add (i.toNat * 9)).off + 6, none⟩ = some (.string (rd_T109 xs i).f6) ∧ w.cell? ⟨(ad.add (i.toNat * 9)).block, (ad.add (i.toNat * 9)).off + 7, none⟩ = some (.string (rd_T109 xs i).f7) ∧ w.cell? ⟨(ad.add (i.toNat * 9)).block, (ad.add (i.toNat * 9)).off + 8, none⟩ = some (.bool (rd_T109 xs i).f8) := by
  obtain ⟨ad, c, e, _, hK, hc0⟩ := Kd.C_get h z109 i h0 h1
  have hc : ∀ j u, c[j]? = some u → w.cell? (ad.add (i.toNat * 9 + j)) = some u := hc0
  obtain rfl := k109_open hK
  exact ⟨ad, e, hc 0 _ rfl, by rw [← add_field _ _ 1 (by omega)]; exact hc 1 _ rfl, by rw [← add_field _ _ 2 (by omega)]; exact hc 2 _ rfl, by rw [← add_field _ _ 3 (by omega)]; exact hc 3 _ rfl, by rw [← add_field _ _ 4 (by omega)]; exact hc 4 _ rfl, by rw [← add_field _ _ 5 (by omega)]; exact hc 5 _ rfl, by rw [← add_field _ _ 6 (by omega)]; exact hc 6 _ rfl, by rw [← add_field _ _ 7 (by omega)]; exact hc 7 _ rfl, by rw [← add_field _ _ 8 (by omega)]; exact hc 8 _ rfl⟩
end Go.Proofs.Ytfiamddinkokbaa.F
end

section
set_option linter.unusedVariables false
set_option linter.unusedSimpArgs false
namespace Go.Proofs.Ytfiamddinkokbaa.F
open Go.RowKit Go.Proofs.YtfiamddinkokbaaW.PrintWords Go.Proofs.YtfiamddinkokbaaW.PrintLast Go.Proofs.YtfiamddinkokbaaW.PrintMore
attribute [local go_sem] max2_int min2_int max_two min_two max_three min_three max_four min_four
set_option linter.unusedVariables false
set_option linter.unusedSimpArgs false
theorem eqA84 (d : Nat) (w : World) (x0 y0 : ByteArray) (x1 y1 : ByteArray) (x2 y2 : ByteArray) :
    (Op.equalIn (d + 2) 84 (.agg #[.string x0, .string x1, .string x2]) (.agg #[.string y0, .string y1, .string y2])).run Try.prog w = .ok (x0.toList == y0.toList && (x1.toList == y1.toList && (x2.toList == y2.toList))) w := by
  refine eqA_of Try.underlying84 (by kernel_rfl) ?_
  refine eqf_cons (by rfl) (by go_simp; rfl) (by go_simp; rfl) (by go_simp) ?_
  refine eqf_cons (by rfl) (by go_simp; rfl) (by go_simp; rfl) (by go_simp) ?_
  exact eqf_last (by rfl) (by go_simp; rfl) (by go_simp; rfl) (by go_simp)
theorem eqA106 (d : Nat) (w : World) (x0 y0 : ByteArray) (x1 y1 : ByteArray) (x2 y2 : ByteArray) (x3 y3 : Bool) (x4 y4 : ByteArray) (x5 y5 : ByteArray) (x6 y6 : ByteArray) (x7 y7 : ByteArray) (x8 y8 : Bool) :
    (Op.equalIn (d + 3) 106 (.agg #[.string x0, .string x1, .string x2, .bool x3, .string x4, .string x5, .string x6, .string x7, .bool x8]) (.agg #[.string y0, .string y1, .string y2, .bool y3, .string y4, .string y5, .string y6, .string y7, .bool y8])).run Try.prog w = .ok ((x0.toList == y0.toList && (x1.toList == y1.toList && (x2.toList == y2.toList))) && (x3 == y3 && (x4.toList == y4.toList && (x5.toList == y5.toList && (x6.toList == y6.toList && (x7.toList == y7.toList && (x8 == y8))))))) w := by
  refine eqA_of Try.underlying106 (by kernel_rfl) ?_
  refine eqf_cons (by rfl) (by go_simp) (by go_simp) (eqA84 (d + 0) w _ _ _ _ _ _) ?_
  refine eqf_cons (by rfl) (by go_simp; rfl) (by go_simp; rfl) (by go_simp) ?_
  refine eqf_cons (by rfl) (by go_simp; rfl) (by go_simp; rfl) (by go_simp) ?_
  refine eqf_cons (by rfl) (by go_simp; rfl) (by go_simp; rfl) (by go_simp) ?_
  refine eqf_cons (by rfl) (by go_simp; rfl) (by go_simp; rfl) (by go_simp) ?_
  refine eqf_cons (by rfl) (by go_simp; rfl) (by go_simp; rfl) (by go_simp) ?_
  exact eqf_last (by rfl) (by go_simp; rfl) (by go_simp; rfl) (by go_simp)
end Go.Proofs.Ytfiamddinkokbaa.F
end

section
set_option linter.unusedVariables false
set_option linter.unusedSimpArgs false
namespace Go.Proofs.Ytfiamddinkokbaa.F
open Go.RowKit Go.Proofs.YtfiamddinkokbaaW.PrintWords Go.Proofs.YtfiamddinkokbaaW.PrintLast Go.Proofs.YtfiamddinkokbaaW.PrintMore
attribute [local go_sem] max2_int min2_int max_two min_two max_three min_three max_four min_four
set_option linter.unusedVariables false
set_option linter.unusedSimpArgs false
attribute [local go_sem high] eqA106
def doc_Part_isText.f (a0_0 : ByteArray) (a0_1 : ByteArray) (a0_2 : ByteArray) (a0_3 : Bool) (a0_4 : ByteArray) (a0_5 : ByteArray) (a0_6 : ByteArray) (a0_7 : ByteArray) (a0_8 : Bool) : Option (Bool) := some ((a0_0.toList.isEmpty && (a0_1.toList.isEmpty && (a0_2.toList.isEmpty))) && (!a0_3 && (a0_5.toList.isEmpty && (a0_6.toList.isEmpty && (a0_7.toList.isEmpty && (!a0_8))))))
set_option maxHeartbeats 8000000 in
set_option maxRecDepth 100000 in
theorem doc_Part_isText.calls (a0_0 : ByteArray) (a0_1 : ByteArray) (a0_2 : ByteArray) (a0_3 : Bool) (a0_4 : ByteArray) (a0_5 : ByteArray) (a0_6 : ByteArray) (a0_7 : ByteArray) (a0_8 : Bool) (r : Bool) (w : World) (h : doc_Part_isText.f a0_0 a0_1 a0_2 a0_3 a0_4 a0_5 a0_6 a0_7 a0_8 = some r) :
    Calls Try.prog 75 #[.agg #[.string a0_0, .string a0_1, .string a0_2, .bool a0_3, .string a0_4, .string a0_5, .string a0_6, .string a0_7, .bool a0_8]] w fun e w' => e = .returned (.bool r) ∧ Below w.heap.size w w' := by
  have hu106 := Try.underlying106
  have HB := Aside0.mk (Below.refl w.heap.size w)
  have H : (some ((a0_0.toList.isEmpty && (a0_1.toList.isEmpty && (a0_2.toList.isEmpty))) && (!a0_3 && (a0_5.toList.isEmpty && (a0_6.toList.isEmpty && (a0_7.toList.isEmpty && (!a0_8))))))) = some r := h
  clear h
  obtain rfl := Option.some.inj H
  go_enter Try.func75, Try.ntmps75
  go_wp2_with (first | ((with_reducible refine gate_dst (N := 1) rfl ?_); refine box_event ?hg (N := 1) ?hd (cs := #[.string a0_0, .string a0_1, .string a0_2, .bool a0_3, .string a0_4, .string a0_5, .string a0_6, .string a0_7, .bool a0_8]) (t := 106) ?hr ?_; (case hd => rfl); (case hg => rfl); (case hr => first | (go_simp; done) | (go_simp; rfl)); intro gb113 hg w2 hbox hb; have n0_ := Aside0.mk (below_step (by repeat (first | (with_reducible first | exact HB.out | apply below_alloc | apply pw_below_drewN | apply below_drew1) | exact HB.out)) hb); have n1_ := Aside0.mk (hbox); have n2_ := Aside0.mk ((by rw [hg]; exact (below_size (by repeat (first | (with_reducible first | exact HB.out | apply below_alloc | apply pw_below_drewN | apply below_drew1) | exact HB.out))) : w.heap.size ≤ gb113)); have n3_ := Aside0.mk ((by rw [hg]; exact (below_size (by repeat (first | (with_reducible first | exact HB.out | apply below_alloc | apply pw_below_drewN | apply below_drew1) | exact HB.out))) : w.heap.size ≤ gb113)); clear HB; have HB := n0_; have BK113 := n1_; have GW113 := n2_; have GE113 := n3_; clear n0_ n1_ n2_ n3_; clear hb hbox hg; have hcz3_0 : w2.cell? ⟨gb113, 0, none⟩ = some (.string a0_0) := (blk_cell BK113.out 0).trans rfl; have hcz3_1 : w2.cell? ⟨gb113, 1, none⟩ = some (.string a0_1) := (blk_cell BK113.out 1).trans rfl; have hcz3_2 : w2.cell? ⟨gb113, 2, none⟩ = some (.string a0_2) := (blk_cell BK113.out 2).trans rfl; have hcz3_3 : w2.cell? ⟨gb113, 3, none⟩ = some (.bool a0_3) := (blk_cell BK113.out 3).trans rfl; have hcz3_4 : w2.cell? ⟨gb113, 4, none⟩ = some (.string a0_4) := (blk_cell BK113.out 4).trans rfl; have hcz3_5 : w2.cell? ⟨gb113, 5, none⟩ = some (.string a0_5) := (blk_cell BK113.out 5).trans rfl; have hcz3_6 : w2.cell? ⟨gb113, 6, none⟩ = some (.string a0_6) := (blk_cell BK113.out 6).trans rfl; have hcz3_7 : w2.cell? ⟨gb113, 7, none⟩ = some (.string a0_7) := (blk_cell BK113.out 7).trans rfl; have hcz3_8 : w2.cell? ⟨gb113, 8, none⟩ = some (.bool a0_8) := (blk_cell BK113.out 8).trans rfl; have hfz3_0 := blk_frozen BK113.out 0; have hfz3_1 := blk_frozen BK113.out 1; have hfz3_2 := blk_frozen BK113.out 2; have hfz3_3 := blk_frozen BK113.out 3; have hfz3_4 := blk_frozen BK113.out 4; have hfz3_5 := blk_frozen BK113.out 5; have hfz3_6 := blk_frozen BK113.out 6; have hfz3_7 := blk_frozen BK113.out 7; have hfz3_8 := blk_frozen BK113.out 8))
  go_ret
  exact ⟨by first | rfl | (simp [errW_none, errW_some] <;> rfl) | (simp [*, errW_none, errW_some] <;> rfl), by repeat (first | (with_reducible first | exact HB.out | apply below_alloc | apply pw_below_drewN | apply below_drew1 | refine below_set ?_ GE113.out) | exact HB.out)⟩
end Go.Proofs.Ytfiamddinkokbaa.F
end

section
set_option linter.unusedVariables false
set_option linter.unusedSimpArgs false
namespace Go.Proofs.Ytfiamddinkokbaa.F
open Go.RowKit Go.Proofs.YtfiamddinkokbaaW.PrintWords Go.Proofs.YtfiamddinkokbaaW.PrintLast Go.Proofs.YtfiamddinkokbaaW.PrintMore
attribute [local go_sem] max2_int min2_int max_two min_two max_three min_three max_four min_four
set_option linter.unusedVariables false
set_option linter.unusedSimpArgs false
attribute [local go_sem high] eqA106
def doc_Of.l0 : Nat → List (S106) → List (S106) → Int → Int → Option ((List (S106)))
  | 0, _, _, _, _ => none
  | k + 1, x3, x7, x8, x9 => if x9 < x8 then (if 0 ≤ x9 then (if x9 < (x7.length : Int) then (if (((((rd_T106 x7 x9).f0.f0).toList).isEmpty && ((((rd_T106 x7 x9).f0.f1).toList).isEmpty && ((((rd_T106 x7 x9).f0.f2).toList).isEmpty))) && (!((rd_T106 x7 x9).f1) && ((((rd_T106 x7 x9).f2).toList).isEmpty && ((((rd_T106 x7 x9).f3).toList).isEmpty && ((((rd_T106 x7 x9).f4).toList).isEmpty && ((((rd_T106 x7 x9).f5).toList).isEmpty && (!((rd_T106 x7 x9).f6)))))))) = true then (doc_Of.l0 k x3 x7 x8 (wrap64 (x9 + 1))) else ((doc_Part_isText.f ((rd_T106 x7 x9).f0.f0) ((rd_T106 x7 x9).f0.f1) ((rd_T106 x7 x9).f0.f2) ((rd_T106 x7 x9).f1) ((rd_T106 x7 x9).f2) ((rd_T106 x7 x9).f3) ((rd_T106 x7 x9).f4) ((rd_T106 x7 x9).f5) ((rd_T106 x7 x9).f6)).bind fun t116 => (if t116 = true then (if (x3.length : Int) > 0 then (if 0 ≤ (wrap64 ((x3.length : Int) - 1)) then (if (wrap64 ((x3.length : Int) - 1)) < (x3.length : Int) then ((doc_Part_isText.f ((rd_T106 x3 (wrap64 ((x3.length : Int) - 1))).f0.f0) ((rd_T106 x3 (wrap64 ((x3.length : Int) - 1))).f0.f1) ((rd_T106 x3 (wrap64 ((x3.length : Int) - 1))).f0.f2) ((rd_T106 x3 (wrap64 ((x3.length : Int) - 1))).f1) ((rd_T106 x3 (wrap64 ((x3.length : Int) - 1))).f2) ((rd_T106 x3 (wrap64 ((x3.length : Int) - 1))).f3) ((rd_T106 x3 (wrap64 ((x3.length : Int) - 1))).f4) ((rd_T106 x3 (wrap64 ((x3.length : Int) - 1))).f5) ((rd_T106 x3 (wrap64 ((x3.length : Int) - 1))).f6)).bind fun t118 => (if t118 = true then (if ((rd_T106 x3 (wrap64 ((x3.length : Int) - 1))).f2).size + ((rd_T106 x7 x9).f2).size ≤ 9223372036854775807 then (doc_Of.l0 k (x3.set ((wrap64 ((x3.length : Int) - 1)) : Int).toNat (⟨(⟨(rd_T106 x3 (wrap64 ((x3.length : Int) - 1))).f0.f0, (rd_T106 x3 (wrap64 ((x3.length : Int) - 1))).f0.f1, (rd_T106 x3 (wrap64 ((x3.length : Int) - 1))).f0.f2⟩ : S84), (rd_T106 x3 (wrap64 ((x3.length : Int) - 1))).f1, ((rd_T106 x3 (wrap64 ((x3.length : Int) - 1))).f2) ++ ((rd_T106 x7 x9).f2), (rd_T106 x3 (wrap64 ((x3.length : Int) - 1))).f3, (rd_T106 x3 (wrap64 ((x3.length : Int) - 1))).f4, (rd_T106 x3 (wrap64 ((x3.length : Int) - 1))).f5, (rd_T106 x3 (wrap64 ((x3.length : Int) - 1))).f6⟩ : S106)) x7 x8 (wrap64 (x9 + 1))) else (none)) else (if x3.length < 1099511627776 then (doc_Of.l0 k (x3 ++ [(⟨(⟨(rd_T106 x7 x9).f0.f0, (rd_T106 x7 x9).f0.f1, (rd_T106 x7 x9).f0.f2⟩ : S84), (rd_T106 x7 x9).f1, (rd_T106 x7 x9).f2, (rd_T106 x7 x9).f3, (rd_T106 x7 x9).f4, (rd_T106 x7 x9).f5, (rd_T106 x7 x9).f6⟩ : S106)]) x7 x8 (wrap64 (x9 + 1))) else (none)))) else (none)) else (none)) else (if x3.length < 1099511627776 then (doc_Of.l0 k (x3 ++ [(⟨(⟨(rd_T106 x7 x9).f0.f0, (rd_T106 x7 x9).f0.f1, (rd_T106 x7 x9).f0.f2⟩ : S84), (rd_T106 x7 x9).f1, (rd_T106 x7 x9).f2, (rd_T106 x7 x9).f3, (rd_T106 x7 x9).f4, (rd_T106 x7 x9).f5, (rd_T106 x7 x9).f6⟩ : S106)]) x7 x8 (wrap64 (x9 + 1))) else (none))) else (if x3.length < 1099511627776 then (doc_Of.l0 k (x3 ++ [(⟨(⟨(rd_T106 x7 x9).f0.f0, (rd_T106 x7 x9).f0.f1, (rd_T106 x7 x9).f0.f2⟩ : S84), (rd_T106 x7 x9).f1, (rd_T106 x7 x9).f2, (rd_T106 x7 x9).f3, (rd_T106 x7 x9).f4, (rd_T106 x7 x9).f5, (rd_T106 x7 x9).f6⟩ : S106)]) x7 x8 (wrap64 (x9 + 1))) else (none))))) else (none)) else (none)) else (some x3)
def doc_Of.f (k : Nat) (l0 : List (S106)) : Option ((List (S106))) := doc_Of.l0 k ([] : List (S106)) l0 (l0.length : Int) 0
theorem doc_Of.mono_l : ∀ k, (∀ y0 y1 y2 y3, LeO (doc_Of.l0 k y0 y1 y2 y3) (doc_Of.l0 (k + 1) y0 y1 y2 y3))
  | 0 => fun _ _ _ _ r h => by simp [doc_Of.l0] at h
  | k + 1 => by
    have ih0 := doc_Of.mono_l k
    · intro y0 y1 y2 y3
      unfold doc_Of.l0
      repeat' first
      | (with_reducible exact ih0 _ _ _ _)
      | (with_reducible exact LeO.refl _)
      | (with_reducible exact LeO.none _)
      | (with_reducible refine LeO.ite ?_ ?_)
      | (with_reducible refine LeO.bind ?_ (fun _ => ?_))
      | exact ih0 _ _ _ _
      | exact LeO.none _
      | refine LeO.ite ?_ ?_
      | refine LeO.bind ?_ (fun _ => ?_)
theorem doc_Of.mono : ∀ a0 k, LeO (doc_Of.f k a0) (doc_Of.f (k + 1) a0) := by
  intro a0 k
  have ih0 := doc_Of.mono_l k
  unfold doc_Of.f
  repeat' first
      | (with_reducible exact ih0 _ _ _ _)
      | (with_reducible exact LeO.refl _)
      | (with_reducible exact LeO.none _)
      | (with_reducible refine LeO.ite ?_ ?_)
      | (with_reducible refine LeO.bind ?_ (fun _ => ?_))
      | exact ih0 _ _ _ _
      | exact LeO.none _
      | refine LeO.ite ?_ ?_
      | refine LeO.bind ?_ (fun _ => ?_)
def doc_Of.T9 : Bool × List (List Nat × List Nat) := (true, [([], []), ([], []), ([1], [1]), ([0, 2], [0, 2]), ([3], [3]), ([4], [4]), ([], []), ([6], [6]), ([5, 7], [5, 7]), ([0, 2, 0, 1, 2, 3, 4, 5, 6, 7, 8], [0, 2]), ([9, 0, 1, 2, 3, 4, 5, 6, 7, 8], [9]), ([10, 8, 0, 1, 2, 3, 4, 5, 6, 7, 8], [8, 10])])
def doc_Of.B9 : List Nat := [0, 0, 2, 7, 15, 31, 0, 64, 255, 511, 1023, 2047]
theorem doc_Of.tab9 : rtab .any (opsOf Try.f24 9) = doc_Of.T9 := by kernel_rfl
theorem doc_Of.bits9 : waitsOk doc_Of.T9.2 doc_Of.B9 = true := by kernel_rfl
set_option maxHeartbeats 8000000 in
set_option maxRecDepth 100000 in
theorem doc_Of.calls (k : Nat) (A0 : Option Addr) (c0 : Nat) (l0 : List (S106)) (r : List (S106)) (w : World) (hr0 : Kd.C k106 w A0 l0.length l0) (hc0 : l0.length ≤ c0) (h : doc_Of.f k l0 = some r) :
    Calls Try.prog 24 #[.slice A0 l0.length c0] w fun e w' => ∃ v0_ : Value, e = .returned (v0_) ∧ Kd.R k106 106 w' w.heap.size (fun _ => True) v0_ r ∧ Below w.heap.size w w' := by
  have hu106 := Try.underlying106
  have HR0 := Aside0.mk hr0
  have HC0 := Aside0.mk hc0
  clear hr0 hc0
  have HB := Aside0.mk (Below.refl w.heap.size w)
  have H : (doc_Of.l0 k ([] : List (S106)) l0 (l0.length : Int) 0) = some r := h
  clear h
  have H' := Aside0.mk H
  clear H
  go_enter Try.func24, Try.ntmps24
  go_wp2
  go_loopg [3, 9] k (fun kq v3 v9 w' => ∃ (x3_1 : List (S106)) (x9_1 : Int), v9 = .int .i64 x9_1 ∧ Aside0 (doc_Of.l0 kq x3_1 l0 (l0.length : Int) x9_1 = some r) ∧ Aside0 (kq ≤ k) ∧ Aside0 (Kd.R k106 106 w' w.heap.size (fun _ => True) v3 x3_1) ∧ Aside0 (Below w.heap.size w w'))
  case atStart => exact ⟨(([] : List (S106))), (0), (by first | rfl | (simp; done) | (simp [*]; done)), H', ⟨Nat.le_refl _⟩, ⟨by first | exact Kd.R_nil _ _ _ _ _ | exact Kd.N_nil _ _ _ _ _ | exact Kd.V_nil _ _ _ _ _ | exact Kd.Q_nil _ _ _ _ _ | exact Kd.S_nil _ _ _ _ _⟩, ⟨by repeat (first | (with_reducible first | exact HB.out | apply below_alloc | apply pw_below_drewN | apply below_drew1) | exact HB.out)⟩⟩
  case round =>
    clear H'
    obtain ⟨x3_1, x9_1, rfl, HA, HK1, HO_3, HB⟩ := hrel
    cases gk with
    | zero => exact absurd HA.out (by simp [doc_Of.l0])
    | succ k1 =>
      have H := HA.out
      clear HA
      simp only [doc_Of.l0] at H
      by_cases c2 : x9_1 < (l0.length : Int)
      · rw [if_pos c2] at H
        have c2b0 : decide (x9_1 < (l0.length : Int)) = true := decide_eq_true c2
        clear c2
        by_cases c3 : 0 ≤ x9_1
        · rw [if_pos c3] at H
          have c3b0 : decide (0 ≤ x9_1) = true := decide_eq_true c3
          clear c3
          by_cases c4 : x9_1 < (l0.length : Int)
          · rw [if_pos c4] at H
            have c4b0 : decide (x9_1 < (l0.length : Int)) = true := decide_eq_true c4
            clear c4
            by_cases c5 : (((((rd_T106 l0 x9_1).f0.f0).toList).isEmpty && ((((rd_T106 l0 x9_1).f0.f1).toList).isEmpty && ((((rd_T106 l0 x9_1).f0.f2).toList).isEmpty))) && (!((rd_T106 l0 x9_1).f1) && ((((rd_T106 l0 x9_1).f2).toList).isEmpty && ((((rd_T106 l0 x9_1).f3).toList).isEmpty && ((((rd_T106 l0 x9_1).f4).toList).isEmpty && ((((rd_T106 l0 x9_1).f5).toList).isEmpty && (!((rd_T106 l0 x9_1).f6)))))))) = true
            · rw [if_pos c5] at H
              have c5b0 : (((((rd_T106 l0 x9_1).f0.f0).toList).isEmpty && ((((rd_T106 l0 x9_1).f0.f1).toList).isEmpty && ((((rd_T106 l0 x9_1).f0.f2).toList).isEmpty))) && (!((rd_T106 l0 x9_1).f1) && ((((rd_T106 l0 x9_1).f2).toList).isEmpty && ((((rd_T106 l0 x9_1).f3).toList).isEmpty && ((((rd_T106 l0 x9_1).f4).toList).isEmpty && ((((rd_T106 l0 x9_1).f5).toList).isEmpty && (!((rd_T106 l0 x9_1).f6)))))))) = true := c5
              clear c5
              have H' := Aside0.mk H
              clear H
              have p114 : 0 ≤ (x9_1 : Int) := of_decide_eq_true (by first | (with_reducible assumption) | assumption)
              have q114 : x9_1 < (l0.length : Int) := of_decide_eq_true (by first | (with_reducible assumption) | assumption)
              obtain ⟨ad114, e114, hx114_0, hx114_1, hx114_2, hx114_3, hx114_4, hx114_5, hx114_6, hx114_7, hx114_8⟩ := at_T106 HR0.out x9_1 p114 q114
              cases e114
              replace hx114_0 := (HB.out.cell (World.block_lt_of_cell? w _ hx114_0)).trans hx114_0
              replace hx114_1 := (HB.out.cell (World.block_lt_of_cell? w _ hx114_1)).trans hx114_1
              replace hx114_2 := (HB.out.cell (World.block_lt_of_cell? w _ hx114_2)).trans hx114_2
              replace hx114_3 := (HB.out.cell (World.block_lt_of_cell? w _ hx114_3)).trans hx114_3
              replace hx114_4 := (HB.out.cell (World.block_lt_of_cell? w _ hx114_4)).trans hx114_4
              replace hx114_5 := (HB.out.cell (World.block_lt_of_cell? w _ hx114_5)).trans hx114_5
              replace hx114_6 := (HB.out.cell (World.block_lt_of_cell? w _ hx114_6)).trans hx114_6
              replace hx114_7 := (HB.out.cell (World.block_lt_of_cell? w _ hx114_7)).trans hx114_7
              replace hx114_8 := (HB.out.cell (World.block_lt_of_cell? w _ hx114_8)).trans hx114_8
              replace p114 := eq_true p114
              replace q114 := eq_true q114
              go_wp2_with (first | ((with_reducible refine gate_dst (N := 5) rfl ?_); refine box_event ?hg (N := 5) ?hd (cs := #[.string (⟨#[]⟩ : ByteArray), .string (⟨#[]⟩ : ByteArray), .string (⟨#[]⟩ : ByteArray), .bool false, .string (⟨#[]⟩ : ByteArray), .string (⟨#[]⟩ : ByteArray), .string (⟨#[]⟩ : ByteArray), .string (⟨#[]⟩ : ByteArray), .bool false]) (t := 106) ?hr ?_; (case hd => rfl); (case hg => rfl); (case hr => first | (go_simp; done) | (go_simp; rfl)); intro gb115 hg w6 hbox hb; have n0_ := Aside0.mk (Kd.R_below (Kd.R_elderB (by (with_reducible repeat (first | apply Kd.R_alloc | apply Kd.R_drewN | apply Kd.R_drew)); exact HO_3.out) gb115 (Nat.le_of_eq hg.symm)) hb); have n1_ := Aside0.mk (below_step (by repeat (first | (with_reducible first | exact HB.out | apply below_alloc | apply pw_below_drewN | apply below_drew1) | exact HB.out)) hb); have n2_ := Aside0.mk (hbox); have n3_ := Aside0.mk ((by rw [hg]; exact (below_size (by repeat (first | (with_reducible first | exact HB.out | apply below_alloc | apply pw_below_drewN | apply below_drew1) | exact HB.out))) : w.heap.size ≤ gb115)); have n4_ := Aside0.mk ((by rw [hg]; exact (below_size (by repeat (first | (with_reducible first | exact HB.out | apply below_alloc | apply pw_below_drewN | apply below_drew1) | exact HB.out))) : w.heap.size ≤ gb115)); clear HO_3; clear HB; have HO_3 := n0_; have HB := n1_; have BK115 := n2_; have GW115 := n3_; have GE115 := n4_; clear n0_ n1_ n2_ n3_ n4_; clear hb hbox hg; have hcz7_0 : w6.cell? ⟨gb115, 0, none⟩ = some (.string (⟨#[]⟩ : ByteArray)) := (blk_cell BK115.out 0).trans rfl; have hcz7_1 : w6.cell? ⟨gb115, 1, none⟩ = some (.string (⟨#[]⟩ : ByteArray)) := (blk_cell BK115.out 1).trans rfl; have hcz7_2 : w6.cell? ⟨gb115, 2, none⟩ = some (.string (⟨#[]⟩ : ByteArray)) := (blk_cell BK115.out 2).trans rfl; have hcz7_3 : w6.cell? ⟨gb115, 3, none⟩ = some (.bool false) := (blk_cell BK115.out 3).trans rfl; have hcz7_4 : w6.cell? ⟨gb115, 4, none⟩ = some (.string (⟨#[]⟩ : ByteArray)) := (blk_cell BK115.out 4).trans rfl; have hcz7_5 : w6.cell? ⟨gb115, 5, none⟩ = some (.string (⟨#[]⟩ : ByteArray)) := (blk_cell BK115.out 5).trans rfl; have hcz7_6 : w6.cell? ⟨gb115, 6, none⟩ = some (.string (⟨#[]⟩ : ByteArray)) := (blk_cell BK115.out 6).trans rfl; have hcz7_7 : w6.cell? ⟨gb115, 7, none⟩ = some (.string (⟨#[]⟩ : ByteArray)) := (blk_cell BK115.out 7).trans rfl; have hcz7_8 : w6.cell? ⟨gb115, 8, none⟩ = some (.bool false) := (blk_cell BK115.out 8).trans rfl; have hfz7_0 := blk_frozen BK115.out 0; have hfz7_1 := blk_frozen BK115.out 1; have hfz7_2 := blk_frozen BK115.out 2; have hfz7_3 := blk_frozen BK115.out 3; have hfz7_4 := blk_frozen BK115.out 4; have hfz7_5 := blk_frozen BK115.out 5; have hfz7_6 := blk_frozen BK115.out 6; have hfz7_7 := blk_frozen BK115.out 7; have hfz7_8 := blk_frozen BK115.out 8; obtain ⟨Ao8, co8, eo8⟩ := Kd.R_slice HO_3.out; subst eo8))
              go_roundg k1
              case measure => have := HK1.out; omega
              case rel => exact ⟨(x3_1), (wrap64 (x9_1 + 1)), (by first | rfl | (simp; done) | (simp [*]; done)), H', ⟨by have := HK1.out; omega⟩, ⟨by (with_reducible repeat (first | apply Kd.R_alloc | apply Kd.R_drewN | apply Kd.R_drew)); exact Kd.R_mono (Kd.R_far (p := ⟨gb115, 8, none⟩) (Kd.R_far (p := ⟨gb115, 7, none⟩) (Kd.R_far (p := ⟨gb115, 6, none⟩) (Kd.R_far (p := ⟨gb115, 5, none⟩) (Kd.R_far (p := ⟨gb115, 4, none⟩) (Kd.R_far (p := ⟨gb115, 3, none⟩) (Kd.R_far (p := ⟨gb115, 2, none⟩) (Kd.R_far (p := ⟨gb115, 1, none⟩) (Kd.R_far (p := ⟨gb115, 0, none⟩) (Kd.R_mono HO_3.out (fun k_ hk => (⟨hk, hk.2⟩ : _ ∧ k_ ≠ gb115))) (fun _ hk => hk.2) (.string ((rd_T106 l0 x9_1).f0.f0))) (fun _ hk => hk.2) (.string ((rd_T106 l0 x9_1).f0.f1))) (fun _ hk => hk.2) (.string ((rd_T106 l0 x9_1).f0.f2))) (fun _ hk => hk.2) (.bool ((rd_T106 l0 x9_1).f1))) (fun _ hk => hk.2) (.string ((rd_T106 l0 x9_1).f2))) (fun _ hk => hk.2) (.string ((rd_T106 l0 x9_1).f3))) (fun _ hk => hk.2) (.string ((rd_T106 l0 x9_1).f4))) (fun _ hk => hk.2) (.string ((rd_T106 l0 x9_1).f5))) (fun _ hk => hk.2) (.bool ((rd_T106 l0 x9_1).f6))) (fun _ hk => trivial)⟩, ⟨by repeat (first | (with_reducible first | exact HB.out | apply below_alloc | apply pw_below_drewN | apply below_drew1 | refine below_set ?_ GE115.out) | exact HB.out)⟩⟩
            · rw [if_neg c5] at H
              have c5b0 : (((((rd_T106 l0 x9_1).f0.f0).toList).isEmpty && ((((rd_T106 l0 x9_1).f0.f1).toList).isEmpty && ((((rd_T106 l0 x9_1).f0.f2).toList).isEmpty))) && (!((rd_T106 l0 x9_1).f1) && ((((rd_T106 l0 x9_1).f2).toList).isEmpty && ((((rd_T106 l0 x9_1).f3).toList).isEmpty && ((((rd_T106 l0 x9_1).f4).toList).isEmpty && ((((rd_T106 l0 x9_1).f5).toList).isEmpty && (!((rd_T106 l0 x9_1).f6)))))))) = false := by simpa using c5
              clear c5
              replace H := Option.bind_eq_some_iff.mp H
              obtain ⟨t116, A90, H⟩ := H
              replace H : (if t116 = true then (if (x3_1.length : Int) > 0 then (if 0 ≤ (wrap64 ((x3_1.length : Int) - 1)) then (if (wrap64 ((x3_1.length : Int) - 1)) < (x3_1.length : Int) then ((doc_Part_isText.f ((rd_T106 x3_1 (wrap64 ((x3_1.length : Int) - 1))).f0.f0) ((rd_T106 x3_1 (wrap64 ((x3_1.length : Int) - 1))).f0.f1) ((rd_T106 x3_1 (wrap64 ((x3_1.length : Int) - 1))).f0.f2) ((rd_T106 x3_1 (wrap64 ((x3_1.length : Int) - 1))).f1) ((rd_T106 x3_1 (wrap64 ((x3_1.length : Int) - 1))).f2) ((rd_T106 x3_1 (wrap64 ((x3_1.length : Int) - 1))).f3) ((rd_T106 x3_1 (wrap64 ((x3_1.length : Int) - 1))).f4) ((rd_T106 x3_1 (wrap64 ((x3_1.length : Int) - 1))).f5) ((rd_T106 x3_1 (wrap64 ((x3_1.length : Int) - 1))).f6)).bind fun t118 => (if t118 = true then (if ((rd_T106 x3_1 (wrap64 ((x3_1.length : Int) - 1))).f2).size + ((rd_T106 l0 x9_1).f2).size ≤ 9223372036854775807 then (doc_Of.l0 k1 (x3_1.set ((wrap64 ((x3_1.length : Int) - 1)) : Int).toNat (⟨(⟨(rd_T106 x3_1 (wrap64 ((x3_1.length : Int) - 1))).f0.f0, (rd_T106 x3_1 (wrap64 ((x3_1.length : Int) - 1))).f0.f1, (rd_T106 x3_1 (wrap64 ((x3_1.length : Int) - 1))).f0.f2⟩ : S84), (rd_T106 x3_1 (wrap64 ((x3_1.length : Int) - 1))).f1, ((rd_T106 x3_1 (wrap64 ((x3_1.length : Int) - 1))).f2) ++ ((rd_T106 l0 x9_1).f2), (rd_T106 x3_1 (wrap64 ((x3_1.length : Int) - 1))).f3, (rd_T106 x3_1 (wrap64 ((x3_1.length : Int) - 1))).f4, (rd_T106 x3_1 (wrap64 ((x3_1.length : Int) - 1))).f5, (rd_T106 x3_1 (wrap64 ((x3_1.length : Int) - 1))).f6⟩ : S106)) l0 (l0.length : Int) (wrap64 (x9_1 + 1))) else (none)) else (if x3_1.length < 1099511627776 then (doc_Of.l0 k1 (x3_1 ++ [(⟨(⟨(rd_T106 l0 x9_1).f0.f0, (rd_T106 l0 x9_1).f0.f1, (rd_T106 l0 x9_1).f0.f2⟩ : S84), (rd_T106 l0 x9_1).f1, (rd_T106 l0 x9_1).f2, (rd_T106 l0 x9_1).f3, (rd_T106 l0 x9_1).f4, (rd_T106 l0 x9_1).f5, (rd_T106 l0 x9_1).f6⟩ : S106)]) l0 (l0.length : Int) (wrap64 (x9_1 + 1))) else (none)))) else (none)) else (none)) else (if x3_1.length < 1099511627776 then (doc_Of.l0 k1 (x3_1 ++ [(⟨(⟨(rd_T106 l0 x9_1).f0.f0, (rd_T106 l0 x9_1).f0.f1, (rd_T106 l0 x9_1).f0.f2⟩ : S84), (rd_T106 l0 x9_1).f1, (rd_T106 l0 x9_1).f2, (rd_T106 l0 x9_1).f3, (rd_T106 l0 x9_1).f4, (rd_T106 l0 x9_1).f5, (rd_T106 l0 x9_1).f6⟩ : S106)]) l0 (l0.length : Int) (wrap64 (x9_1 + 1))) else (none))) else (if x3_1.length < 1099511627776 then (doc_Of.l0 k1 (x3_1 ++ [(⟨(⟨(rd_T106 l0 x9_1).f0.f0, (rd_T106 l0 x9_1).f0.f1, (rd_T106 l0 x9_1).f0.f2⟩ : S84), (rd_T106 l0 x9_1).f1, (rd_T106 l0 x9_1).f2, (rd_T106 l0 x9_1).f3, (rd_T106 l0 x9_1).f4, (rd_T106 l0 x9_1).f5, (rd_T106 l0 x9_1).f6⟩ : S106)]) l0 (l0.length : Int) (wrap64 (x9_1 + 1))) else (none))) = some r := H
              have A9 := Aside0.mk A90
              clear A90
              by_cases c10 : t116 = true
              · subst c10
                have H1 : (if (x3_1.length : Int) > 0 then (if 0 ≤ (wrap64 ((x3_1.length : Int) - 1)) then (if (wrap64 ((x3_1.length : Int) - 1)) < (x3_1.length : Int) then ((doc_Part_isText.f ((rd_T106 x3_1 (wrap64 ((x3_1.length : Int) - 1))).f0.f0) ((rd_T106 x3_1 (wrap64 ((x3_1.length : Int) - 1))).f0.f1) ((rd_T106 x3_1 (wrap64 ((x3_1.length : Int) - 1))).f0.f2) ((rd_T106 x3_1 (wrap64 ((x3_1.length : Int) - 1))).f1) ((rd_T106 x3_1 (wrap64 ((x3_1.length : Int) - 1))).f2) ((rd_T106 x3_1 (wrap64 ((x3_1.length : Int) - 1))).f3) ((rd_T106 x3_1 (wrap64 ((x3_1.length : Int) - 1))).f4) ((rd_T106 x3_1 (wrap64 ((x3_1.length : Int) - 1))).f5) ((rd_T106 x3_1 (wrap64 ((x3_1.length : Int) - 1))).f6)).bind fun t118 => (if t118 = true then (if ((rd_T106 x3_1 (wrap64 ((x3_1.length : Int) - 1))).f2).size + ((rd_T106 l0 x9_1).f2).size ≤ 9223372036854775807 then (doc_Of.l0 k1 (x3_1.set ((wrap64 ((x3_1.length : Int) - 1)) : Int).toNat (⟨(⟨(rd_T106 x3_1 (wrap64 ((x3_1.length : Int) - 1))).f0.f0, (rd_T106 x3_1 (wrap64 ((x3_1.length : Int) - 1))).f0.f1, (rd_T106 x3_1 (wrap64 ((x3_1.length : Int) - 1))).f0.f2⟩ : S84), (rd_T106 x3_1 (wrap64 ((x3_1.length : Int) - 1))).f1, ((rd_T106 x3_1 (wrap64 ((x3_1.length : Int) - 1))).f2) ++ ((rd_T106 l0 x9_1).f2), (rd_T106 x3_1 (wrap64 ((x3_1.length : Int) - 1))).f3, (rd_T106 x3_1 (wrap64 ((x3_1.length : Int) - 1))).f4, (rd_T106 x3_1 (wrap64 ((x3_1.length : Int) - 1))).f5, (rd_T106 x3_1 (wrap64 ((x3_1.length : Int) - 1))).f6⟩ : S106)) l0 (l0.length : Int) (wrap64 (x9_1 + 1))) else (none)) else (if x3_1.length < 1099511627776 then (doc_Of.l0 k1 (x3_1 ++ [(⟨(⟨(rd_T106 l0 x9_1).f0.f0, (rd_T106 l0 x9_1).f0.f1, (rd_T106 l0 x9_1).f0.f2⟩ : S84), (rd_T106 l0 x9_1).f1, (rd_T106 l0 x9_1).f2, (rd_T106 l0 x9_1).f3, (rd_T106 l0 x9_1).f4, (rd_T106 l0 x9_1).f5, (rd_T106 l0 x9_1).f6⟩ : S106)]) l0 (l0.length : Int) (wrap64 (x9_1 + 1))) else (none)))) else (none)) else (none)) else (if x3_1.length < 1099511627776 then (doc_Of.l0 k1 (x3_1 ++ [(⟨(⟨(rd_T106 l0 x9_1).f0.f0, (rd_T106 l0 x9_1).f0.f1, (rd_T106 l0 x9_1).f0.f2⟩ : S84), (rd_T106 l0 x9_1).f1, (rd_T106 l0 x9_1).f2, (rd_T106 l0 x9_1).f3, (rd_T106 l0 x9_1).f4, (rd_T106 l0 x9_1).f5, (rd_T106 l0 x9_1).f6⟩ : S106)]) l0 (l0.length : Int) (wrap64 (x9_1 + 1))) else (none))) = some r := by rw [if_pos rfl] at H; exact H
                clear H
                have H := H1
                clear H1
                by_cases c11 : (x3_1.length : Int) > 0
                · rw [if_pos c11] at H
                  have c11b0 : decide (0 < (x3_1.length : Int)) = true := decide_eq_true c11
                  have c11b1 : decide (0 < x3_1.length) = true := decide_eq_true (by omega)
                  clear c11
                  obtain ⟨ji12, hji12⟩ : ∃ j_ : Int, (wrap64 ((x3_1.length : Int) - 1)) = j_ := ⟨_, rfl⟩
                  replace H : (if 0 ≤ (ji12) then (if (ji12) < (x3_1.length : Int) then ((doc_Part_isText.f ((rd_T106 x3_1 (ji12)).f0.f0) ((rd_T106 x3_1 (ji12)).f0.f1) ((rd_T106 x3_1 (ji12)).f0.f2) ((rd_T106 x3_1 (ji12)).f1) ((rd_T106 x3_1 (ji12)).f2) ((rd_T106 x3_1 (ji12)).f3) ((rd_T106 x3_1 (ji12)).f4) ((rd_T106 x3_1 (ji12)).f5) ((rd_T106 x3_1 (ji12)).f6)).bind fun t118 => (if t118 = true then (if ((rd_T106 x3_1 (ji12)).f2).size + ((rd_T106 l0 x9_1).f2).size ≤ 9223372036854775807 then (doc_Of.l0 k1 (x3_1.set ((ji12) : Int).toNat (⟨(⟨(rd_T106 x3_1 (ji12)).f0.f0, (rd_T106 x3_1 (ji12)).f0.f1, (rd_T106 x3_1 (ji12)).f0.f2⟩ : S84), (rd_T106 x3_1 (ji12)).f1, ((rd_T106 x3_1 (ji12)).f2) ++ ((rd_T106 l0 x9_1).f2), (rd_T106 x3_1 (ji12)).f3, (rd_T106 x3_1 (ji12)).f4, (rd_T106 x3_1 (ji12)).f5, (rd_T106 x3_1 (ji12)).f6⟩ : S106)) l0 (l0.length : Int) (wrap64 (x9_1 + 1))) else (none)) else (if x3_1.length < 1099511627776 then (doc_Of.l0 k1 (x3_1 ++ [(⟨(⟨(rd_T106 l0 x9_1).f0.f0, (rd_T106 l0 x9_1).f0.f1, (rd_T106 l0 x9_1).f0.f2⟩ : S84), (rd_T106 l0 x9_1).f1, (rd_T106 l0 x9_1).f2, (rd_T106 l0 x9_1).f3, (rd_T106 l0 x9_1).f4, (rd_T106 l0 x9_1).f5, (rd_T106 l0 x9_1).f6⟩ : S106)]) l0 (l0.length : Int) (wrap64 (x9_1 + 1))) else (none)))) else (none)) else (none)) = some r := by first | (rw [hji12] at H; exact H) | (simp only [hji12] at H ⊢; exact H)
                  (try rw [hji12] at A9)
                  have hji12w : (IntKind.i64.wrap ((x3_1.length : Int) - 1)) = ji12 := (i64_w _).trans hji12
                  by_cases c13 : 0 ≤ (ji12)
                  · rw [if_pos c13] at H
                    have c13b0 : decide (0 ≤ (ji12)) = true := decide_eq_true c13
                    clear c13
                    by_cases c14 : (ji12) < (x3_1.length : Int)
                    · rw [if_pos c14] at H
                      have c14b0 : decide ((ji12) < (x3_1.length : Int)) = true := decide_eq_true c14
                      clear c14
                      replace H := Option.bind_eq_some_iff.mp H
                      obtain ⟨t118, A150, H⟩ := H
                      replace H : (if t118 = true then (if ((rd_T106 x3_1 (ji12)).f2).size + ((rd_T106 l0 x9_1).f2).size ≤ 9223372036854775807 then (doc_Of.l0 k1 (x3_1.set ((ji12) : Int).toNat (⟨(⟨(rd_T106 x3_1 (ji12)).f0.f0, (rd_T106 x3_1 (ji12)).f0.f1, (rd_T106 x3_1 (ji12)).f0.f2⟩ : S84), (rd_T106 x3_1 (ji12)).f1, ((rd_T106 x3_1 (ji12)).f2) ++ ((rd_T106 l0 x9_1).f2), (rd_T106 x3_1 (ji12)).f3, (rd_T106 x3_1 (ji12)).f4, (rd_T106 x3_1 (ji12)).f5, (rd_T106 x3_1 (ji12)).f6⟩ : S106)) l0 (l0.length : Int) (wrap64 (x9_1 + 1))) else (none)) else (if x3_1.length < 1099511627776 then (doc_Of.l0 k1 (x3_1 ++ [(⟨(⟨(rd_T106 l0 x9_1).f0.f0, (rd_T106 l0 x9_1).f0.f1, (rd_T106 l0 x9_1).f0.f2⟩ : S84), (rd_T106 l0 x9_1).f1, (rd_T106 l0 x9_1).f2, (rd_T106 l0 x9_1).f3, (rd_T106 l0 x9_1).f4, (rd_T106 l0 x9_1).f5, (rd_T106 l0 x9_1).f6⟩ : S106)]) l0 (l0.length : Int) (wrap64 (x9_1 + 1))) else (none))) = some r := H
                      have A15 := Aside0.mk A150
                      clear A150
                      by_cases c16 : t118 = true
                      · subst c16
                        have H1 : (if ((rd_T106 x3_1 (ji12)).f2).size + ((rd_T106 l0 x9_1).f2).size ≤ 9223372036854775807 then (doc_Of.l0 k1 (x3_1.set ((ji12) : Int).toNat (⟨(⟨(rd_T106 x3_1 (ji12)).f0.f0, (rd_T106 x3_1 (ji12)).f0.f1, (rd_T106 x3_1 (ji12)).f0.f2⟩ : S84), (rd_T106 x3_1 (ji12)).f1, ((rd_T106 x3_1 (ji12)).f2) ++ ((rd_T106 l0 x9_1).f2), (rd_T106 x3_1 (ji12)).f3, (rd_T106 x3_1 (ji12)).f4, (rd_T106 x3_1 (ji12)).f5, (rd_T106 x3_1 (ji12)).f6⟩ : S106)) l0 (l0.length : Int) (wrap64 (x9_1 + 1))) else (none)) = some r := by rw [if_pos rfl] at H; exact H
                        clear H
                        have H := H1
                        clear H1
                        by_cases c17 : ((rd_T106 x3_1 (ji12)).f2).size + ((rd_T106 l0 x9_1).f2).size ≤ 9223372036854775807
                        · rw [if_pos c17] at H
                          have c17b0 := eq_true c17
                          have c17b1 : decide (((rd_T106 x3_1 (ji12)).f2).size + ((rd_T106 l0 x9_1).f2).size ≤ 9223372036854775807) = true := decide_eq_true c17
                          try have c17b2 : (9223372036854775807 < ((rd_T106 x3_1 (ji12)).f2).size + ((rd_T106 l0 x9_1).f2).size) = False := eq_false (Nat.not_lt.2 c17)
                          obtain ⟨y120, hy120⟩ : ∃ y_ : List (S106), y_ = (x3_1.set ((ji12) : Int).toNat (⟨(⟨(rd_T106 x3_1 (ji12)).f0.f0, (rd_T106 x3_1 (ji12)).f0.f1, (rd_T106 x3_1 (ji12)).f0.f2⟩ : S84), (rd_T106 x3_1 (ji12)).f1, ((rd_T106 x3_1 (ji12)).f2) ++ ((rd_T106 l0 x9_1).f2), (rd_T106 x3_1 (ji12)).f3, (rd_T106 x3_1 (ji12)).f4, (rd_T106 x3_1 (ji12)).f5, (rd_T106 x3_1 (ji12)).f6⟩ : S106)) := ⟨_, rfl⟩
                          replace H : (doc_Of.l0 k1 y120 l0 (l0.length : Int) (wrap64 (x9_1 + 1))) = some r := by first | (rw [hy120]; with_reducible exact H) | (have H2_ := (Option.bind_some _ _).symm.trans H; rw [hy120]; with_reducible exact H2_) | (have H2_ := (Option.bind_some _ _).symm.trans H; with_reducible exact H2_) | with_reducible exact H | (rw [hy120]; exact H) | exact H
                          have Ny120 := Aside0.mk hy120
                          clear hy120
                          have H' := Aside0.mk H
                          clear H
                          have p114 : 0 ≤ (x9_1 : Int) := of_decide_eq_true (by first | (with_reducible assumption) | assumption)
                          have q114 : x9_1 < (l0.length : Int) := of_decide_eq_true (by first | (with_reducible assumption) | assumption)
                          obtain ⟨ad114, e114, hx114_0, hx114_1, hx114_2, hx114_3, hx114_4, hx114_5, hx114_6, hx114_7, hx114_8⟩ := at_T106 HR0.out x9_1 p114 q114
                          cases e114
                          replace hx114_0 := (HB.out.cell (World.block_lt_of_cell? w _ hx114_0)).trans hx114_0
                          replace hx114_1 := (HB.out.cell (World.block_lt_of_cell? w _ hx114_1)).trans hx114_1
                          replace hx114_2 := (HB.out.cell (World.block_lt_of_cell? w _ hx114_2)).trans hx114_2
                          replace hx114_3 := (HB.out.cell (World.block_lt_of_cell? w _ hx114_3)).trans hx114_3
                          replace hx114_4 := (HB.out.cell (World.block_lt_of_cell? w _ hx114_4)).trans hx114_4
                          replace hx114_5 := (HB.out.cell (World.block_lt_of_cell? w _ hx114_5)).trans hx114_5
                          replace hx114_6 := (HB.out.cell (World.block_lt_of_cell? w _ hx114_6)).trans hx114_6
                          replace hx114_7 := (HB.out.cell (World.block_lt_of_cell? w _ hx114_7)).trans hx114_7
                          replace hx114_8 := (HB.out.cell (World.block_lt_of_cell? w _ hx114_8)).trans hx114_8
                          replace p114 := eq_true p114
                          replace q114 := eq_true q114
                          try go_wp2_with (first | ((with_reducible refine gate_dst (N := 5) rfl ?_); refine box_event ?hg (N := 5) ?hd (cs := #[.string (⟨#[]⟩ : ByteArray), .string (⟨#[]⟩ : ByteArray), .string (⟨#[]⟩ : ByteArray), .bool false, .string (⟨#[]⟩ : ByteArray), .string (⟨#[]⟩ : ByteArray), .string (⟨#[]⟩ : ByteArray), .string (⟨#[]⟩ : ByteArray), .bool false]) (t := 106) ?hr ?_; (case hd => rfl); (case hg => rfl); (case hr => first | (go_simp; done) | (go_simp; rfl)); intro gb115 hg w19 hbox hb; have n0_ := Aside0.mk (Kd.R_below (Kd.R_elderB (by (with_reducible repeat (first | apply Kd.R_alloc | apply Kd.R_drewN | apply Kd.R_drew)); exact HO_3.out) gb115 (Nat.le_of_eq hg.symm)) hb); have n1_ := Aside0.mk (below_step (by repeat (first | (with_reducible first | exact HB.out | apply below_alloc | apply pw_below_drewN | apply below_drew1) | exact HB.out)) hb); have n2_ := Aside0.mk (hbox); have n3_ := Aside0.mk ((by rw [hg]; exact (below_size (by repeat (first | (with_reducible first | exact HB.out | apply below_alloc | apply pw_below_drewN | apply below_drew1) | exact HB.out))) : w.heap.size ≤ gb115)); have n4_ := Aside0.mk ((by rw [hg]; exact (below_size (by repeat (first | (with_reducible first | exact HB.out | apply below_alloc | apply pw_below_drewN | apply below_drew1) | exact HB.out))) : w.heap.size ≤ gb115)); clear HO_3; clear HB; have HO_3 := n0_; have HB := n1_; have BK115 := n2_; have GW115 := n3_; have GE115 := n4_; clear n0_ n1_ n2_ n3_ n4_; clear hb hbox hg; have hcz20_0 : w19.cell? ⟨gb115, 0, none⟩ = some (.string (⟨#[]⟩ : ByteArray)) := (blk_cell BK115.out 0).trans rfl; have hcz20_1 : w19.cell? ⟨gb115, 1, none⟩ = some (.string (⟨#[]⟩ : ByteArray)) := (blk_cell BK115.out 1).trans rfl; have hcz20_2 : w19.cell? ⟨gb115, 2, none⟩ = some (.string (⟨#[]⟩ : ByteArray)) := (blk_cell BK115.out 2).trans rfl; have hcz20_3 : w19.cell? ⟨gb115, 3, none⟩ = some (.bool false) := (blk_cell BK115.out 3).trans rfl; have hcz20_4 : w19.cell? ⟨gb115, 4, none⟩ = some (.string (⟨#[]⟩ : ByteArray)) := (blk_cell BK115.out 4).trans rfl; have hcz20_5 : w19.cell? ⟨gb115, 5, none⟩ = some (.string (⟨#[]⟩ : ByteArray)) := (blk_cell BK115.out 5).trans rfl; have hcz20_6 : w19.cell? ⟨gb115, 6, none⟩ = some (.string (⟨#[]⟩ : ByteArray)) := (blk_cell BK115.out 6).trans rfl; have hcz20_7 : w19.cell? ⟨gb115, 7, none⟩ = some (.string (⟨#[]⟩ : ByteArray)) := (blk_cell BK115.out 7).trans rfl; have hcz20_8 : w19.cell? ⟨gb115, 8, none⟩ = some (.bool false) := (blk_cell BK115.out 8).trans rfl; have hfz20_0 := blk_frozen BK115.out 0; have hfz20_1 := blk_frozen BK115.out 1; have hfz20_2 := blk_frozen BK115.out 2; have hfz20_3 := blk_frozen BK115.out 3; have hfz20_4 := blk_frozen BK115.out 4; have hfz20_5 := blk_frozen BK115.out 5; have hfz20_6 := blk_frozen BK115.out 6; have hfz20_7 := blk_frozen BK115.out 7; have hfz20_8 := blk_frozen BK115.out 8; obtain ⟨Ao21, co21, eo21⟩ := Kd.R_slice HO_3.out; subst eo21) | ((with_reducible refine gate_callee (f := 75) rfl ?_); refine goesL_ (some 25) rfl rfl Try.func75 (by kernel_rfl) rfl #[.agg #[.string ((rd_T106 l0 x9_1).f0.f0), .string ((rd_T106 l0 x9_1).f0.f1), .string ((rd_T106 l0 x9_1).f0.f2), .bool ((rd_T106 l0 x9_1).f1), .string ((rd_T106 l0 x9_1).f2), .string ((rd_T106 l0 x9_1).f3), .string ((rd_T106 l0 x9_1).f4), .string ((rd_T106 l0 x9_1).f5), .bool ((rd_T106 l0 x9_1).f6)]] rfl (by (try simp only [List.map_toArray, List.map_cons, List.map_nil]); first | done | rfl | (simp only [List.length_drop, List.length_take]; rfl)) ?_; (with_reducible refine (doc_Part_isText.calls ((rd_T106 l0 x9_1).f0.f0) ((rd_T106 l0 x9_1).f0.f1) ((rd_T106 l0 x9_1).f0.f2) ((rd_T106 l0 x9_1).f1) ((rd_T106 l0 x9_1).f2) ((rd_T106 l0 x9_1).f3) ((rd_T106 l0 x9_1).f4) ((rd_T106 l0 x9_1).f5) ((rd_T106 l0 x9_1).f6) true _ A9.out).mono ?_); rintro e w22 ⟨rfl, hb⟩; refine ⟨_, rfl, ?_⟩; have n0_ := Aside0.mk (Kd.R_below (by (with_reducible repeat (first | apply Kd.R_alloc | apply Kd.R_drewN | apply Kd.R_drew)); exact (Kd.R_mono (Kd.R_far (p := ⟨gb115, 8, none⟩) (Kd.R_far (p := ⟨gb115, 7, none⟩) (Kd.R_far (p := ⟨gb115, 6, none⟩) (Kd.R_far (p := ⟨gb115, 5, none⟩) (Kd.R_far (p := ⟨gb115, 4, none⟩) (Kd.R_far (p := ⟨gb115, 3, none⟩) (Kd.R_far (p := ⟨gb115, 2, none⟩) (Kd.R_far (p := ⟨gb115, 1, none⟩) (Kd.R_far (p := ⟨gb115, 0, none⟩) (Kd.R_mono HO_3.out (fun k_ hk => (⟨hk, hk.2⟩ : _ ∧ k_ ≠ gb115))) (fun _ hk => hk.2) (.string ((rd_T106 l0 x9_1).f0.f0))) (fun _ hk => hk.2) (.string ((rd_T106 l0 x9_1).f0.f1))) (fun _ hk => hk.2) (.string ((rd_T106 l0 x9_1).f0.f2))) (fun _ hk => hk.2) (.bool ((rd_T106 l0 x9_1).f1))) (fun _ hk => hk.2) (.string ((rd_T106 l0 x9_1).f2))) (fun _ hk => hk.2) (.string ((rd_T106 l0 x9_1).f3))) (fun _ hk => hk.2) (.string ((rd_T106 l0 x9_1).f4))) (fun _ hk => hk.2) (.string ((rd_T106 l0 x9_1).f5))) (fun _ hk => hk.2) (.bool ((rd_T106 l0 x9_1).f6))) (fun _ h_ => h_.1))) hb); have n1_ := Aside0.mk (blk_below (g := gb115) (o := .cells #[.string ((rd_T106 l0 x9_1).f0.f0), .string ((rd_T106 l0 x9_1).f0.f1), .string ((rd_T106 l0 x9_1).f0.f2), .bool ((rd_T106 l0 x9_1).f1), .string ((rd_T106 l0 x9_1).f2), .string ((rd_T106 l0 x9_1).f3), .string ((rd_T106 l0 x9_1).f4), .string ((rd_T106 l0 x9_1).f5), .bool ((rd_T106 l0 x9_1).f6)] 106 (0, 0)) (by (with_reducible repeat (first | refine blk_drewN ?_ _ | refine blk_drew ?_ | refine blk_alloc ?_ _)); refine blk_put (cs := #[.string ((rd_T106 l0 x9_1).f0.f0), .string ((rd_T106 l0 x9_1).f0.f1), .string ((rd_T106 l0 x9_1).f0.f2), .bool ((rd_T106 l0 x9_1).f1), .string ((rd_T106 l0 x9_1).f2), .string ((rd_T106 l0 x9_1).f3), .string ((rd_T106 l0 x9_1).f4), .string ((rd_T106 l0 x9_1).f5), .bool false]) ?_ 8 _ rfl; (with_reducible repeat (first | refine blk_drewN ?_ _ | refine blk_drew ?_ | refine blk_alloc ?_ _)); refine blk_put (cs := #[.string ((rd_T106 l0 x9_1).f0.f0), .string ((rd_T106 l0 x9_1).f0.f1), .string ((rd_T106 l0 x9_1).f0.f2), .bool ((rd_T106 l0 x9_1).f1), .string ((rd_T106 l0 x9_1).f2), .string ((rd_T106 l0 x9_1).f3), .string ((rd_T106 l0 x9_1).f4), .string (⟨#[]⟩ : ByteArray), .bool false]) ?_ 7 _ rfl; (with_reducible repeat (first | refine blk_drewN ?_ _ | refine blk_drew ?_ | refine blk_alloc ?_ _)); refine blk_put (cs := #[.string ((rd_T106 l0 x9_1).f0.f0), .string ((rd_T106 l0 x9_1).f0.f1), .string ((rd_T106 l0 x9_1).f0.f2), .bool ((rd_T106 l0 x9_1).f1), .string ((rd_T106 l0 x9_1).f2), .string ((rd_T106 l0 x9_1).f3), .string (⟨#[]⟩ : ByteArray), .string (⟨#[]⟩ : ByteArray), .bool false]) ?_ 6 _ rfl; (with_reducible repeat (first | refine blk_drewN ?_ _ | refine blk_drew ?_ | refine blk_alloc ?_ _)); refine blk_put (cs := #[.string ((rd_T106 l0 x9_1).f0.f0), .string ((rd_T106 l0 x9_1).f0.f1), .string ((rd_T106 l0 x9_1).f0.f2), .bool ((rd_T106 l0 x9_1).f1), .string ((rd_T106 l0 x9_1).f2), .string (⟨#[]⟩ : ByteArray), .string (⟨#[]⟩ : ByteArray), .string (⟨#[]⟩ : ByteArray), .bool false]) ?_ 5 _ rfl; (with_reducible repeat (first | refine blk_drewN ?_ _ | refine blk_drew ?_ | refine blk_alloc ?_ _)); refine blk_put (cs := #[.string ((rd_T106 l0 x9_1).f0.f0), .string ((rd_T106 l0 x9_1).f0.f1), .string ((rd_T106 l0 x9_1).f0.f2), .bool ((rd_T106 l0 x9_1).f1), .string (⟨#[]⟩ : ByteArray), .string (⟨#[]⟩ : ByteArray), .string (⟨#[]⟩ : ByteArray), .string (⟨#[]⟩ : ByteArray), .bool false]) ?_ 4 _ rfl; (with_reducible repeat (first | refine blk_drewN ?_ _ | refine blk_drew ?_ | refine blk_alloc ?_ _)); refine blk_put (cs := #[.string ((rd_T106 l0 x9_1).f0.f0), .string ((rd_T106 l0 x9_1).f0.f1), .string ((rd_T106 l0 x9_1).f0.f2), .bool false, .string (⟨#[]⟩ : ByteArray), .string (⟨#[]⟩ : ByteArray), .string (⟨#[]⟩ : ByteArray), .string (⟨#[]⟩ : ByteArray), .bool false]) ?_ 3 _ rfl; (with_reducible repeat (first | refine blk_drewN ?_ _ | refine blk_drew ?_ | refine blk_alloc ?_ _)); refine blk_put (cs := #[.string ((rd_T106 l0 x9_1).f0.f0), .string ((rd_T106 l0 x9_1).f0.f1), .string (⟨#[]⟩ : ByteArray), .bool false, .string (⟨#[]⟩ : ByteArray), .string (⟨#[]⟩ : ByteArray), .string (⟨#[]⟩ : ByteArray), .string (⟨#[]⟩ : ByteArray), .bool false]) ?_ 2 _ rfl; (with_reducible repeat (first | refine blk_drewN ?_ _ | refine blk_drew ?_ | refine blk_alloc ?_ _)); refine blk_put (cs := #[.string ((rd_T106 l0 x9_1).f0.f0), .string (⟨#[]⟩ : ByteArray), .string (⟨#[]⟩ : ByteArray), .bool false, .string (⟨#[]⟩ : ByteArray), .string (⟨#[]⟩ : ByteArray), .string (⟨#[]⟩ : ByteArray), .string (⟨#[]⟩ : ByteArray), .bool false]) ?_ 1 _ rfl; (with_reducible repeat (first | refine blk_drewN ?_ _ | refine blk_drew ?_ | refine blk_alloc ?_ _)); refine blk_put (cs := #[.string (⟨#[]⟩ : ByteArray), .string (⟨#[]⟩ : ByteArray), .string (⟨#[]⟩ : ByteArray), .bool false, .string (⟨#[]⟩ : ByteArray), .string (⟨#[]⟩ : ByteArray), .string (⟨#[]⟩ : ByteArray), .string (⟨#[]⟩ : ByteArray), .bool false]) ?_ 0 _ rfl; (with_reducible repeat (first | refine blk_drewN ?_ _ | refine blk_drew ?_ | refine blk_alloc ?_ _)); exact BK115.out) hb); have n2_ := Aside0.mk (below_step (by repeat (first | (with_reducible first | exact HB.out | apply below_alloc | apply pw_below_drewN | apply below_drew1 | refine below_set ?_ GE115.out) | exact HB.out)) hb); clear HO_3; clear BK115; clear HB; have HO_3 := n0_; have BK115 := n1_; have HB := n2_; clear n0_ n1_ n2_; (try clear hb); (try clear hb2); (try clear hk); (try clear hi); have p117 : 0 ≤ ((ji12) : Int) := of_decide_eq_true (by first | (with_reducible assumption) | assumption); have q117 : (ji12) < (x3_1.length : Int) := of_decide_eq_true (by first | (with_reducible assumption) | assumption); obtain ⟨ad117, e117, hx117_0, hx117_1, hx117_2, hx117_3, hx117_4, hx117_5, hx117_6, hx117_7, hx117_8⟩ := at_T106 (Kd.R_reads' HO_3.out).2.2 (ji12) p117 q117; cases e117; replace p117 := eq_true p117; replace q117 := eq_true q117) | (go_at_call 75; (with_reducible refine (doc_Part_isText.calls ((rd_T106 x3_1 (ji12)).f0.f0) ((rd_T106 x3_1 (ji12)).f0.f1) ((rd_T106 x3_1 (ji12)).f0.f2) ((rd_T106 x3_1 (ji12)).f1) ((rd_T106 x3_1 (ji12)).f2) ((rd_T106 x3_1 (ji12)).f3) ((rd_T106 x3_1 (ji12)).f4) ((rd_T106 x3_1 (ji12)).f5) ((rd_T106 x3_1 (ji12)).f6) true _ A15.out).mono ?_); rintro e w23 ⟨rfl, hb⟩; have n0_ := Aside0.mk (Kd.R_below (by (with_reducible repeat (first | apply Kd.R_alloc | apply Kd.R_drewN | apply Kd.R_drew)); exact HO_3.out) hb); have n1_ := Aside0.mk (blk_below (g := gb115) (o := .cells #[.string ((rd_T106 l0 x9_1).f0.f0), .string ((rd_T106 l0 x9_1).f0.f1), .string ((rd_T106 l0 x9_1).f0.f2), .bool ((rd_T106 l0 x9_1).f1), .string ((rd_T106 l0 x9_1).f2), .string ((rd_T106 l0 x9_1).f3), .string ((rd_T106 l0 x9_1).f4), .string ((rd_T106 l0 x9_1).f5), .bool ((rd_T106 l0 x9_1).f6)] 106 (0, 0)) (by (with_reducible repeat (first | refine blk_drewN ?_ _ | refine blk_drew ?_ | refine blk_alloc ?_ _)); exact BK115.out) hb); have n2_ := Aside0.mk (below_step (by repeat (first | (with_reducible first | exact HB.out | apply below_alloc | apply pw_below_drewN | apply below_drew1 | refine below_set ?_ GE115.out) | exact HB.out)) hb); clear HO_3; clear BK115; clear HB; have HO_3 := n0_; have BK115 := n1_; have HB := n2_; clear n0_ n1_ n2_; (try clear hb); (try clear hb2); (try clear hk); (try clear hi)))
                          have n0_ := Aside0.mk (Kd.R_drew HO_3.out)
                          have n1_ := Aside0.mk (blk_drew BK115.out)
                          have n2_ := Aside0.mk (below_drew1 HB.out)
                          clear HO_3
                          clear BK115
                          clear HB
                          have HO_3 := n0_
                          have BK115 := n1_
                          have HB := n2_
                          clear n0_ n1_ n2_
                          have p119 : 0 ≤ ((ji12) : Int) := of_decide_eq_true (by first | (with_reducible assumption) | assumption)
                          have q119 : (ji12) < (x3_1.length : Int) := of_decide_eq_true (by first | (with_reducible assumption) | assumption)
                          obtain ⟨ad119, e119, hx119_0, hx119_1, hx119_2, hx119_3, hx119_4, hx119_5, hx119_6, hx119_7, hx119_8⟩ := at_T106 (Kd.R_reads' HO_3.out).2.2 (ji12) p119 q119
                          obtain rfl : ad117 = ad119 := (by injection e119)
                          replace p119 := eq_true p119
                          replace q119 := eq_true q119
                          have p18 : 0 ≤ ((ji12) : Int) := of_decide_eq_true (by first | (with_reducible assumption) | assumption)
                          have q18 : ((ji12) : Int) < ((x3_1.length : Int) : Int) := of_decide_eq_true (by first | (with_reducible assumption) | assumption)
                          obtain ⟨go18, co18, eo18, gb18, gl18, cl18, HG18⟩ := Kd.R_form HO_3.out (by omega)
                          (first | cases eo18 | (injection eo18 with ea_ en_ ec_; (first | subst ea_ | (injection ea_ with ea_; subst ea_)); subst ec_; clear en_))
                          have GB18 := Aside0.mk gb18
                          have GG18 := Aside0.mk HG18
                          clear gb18 gl18 HG18
                          (first | simp only [add_plain] at hx117_0 | skip)
                          (first | simp only [add_plain] at hx117_1 | skip)
                          (first | simp only [add_plain] at hx117_2 | skip)
                          (first | simp only [add_plain] at hx117_3 | skip)
                          (first | simp only [add_plain] at hx117_4 | skip)
                          (first | simp only [add_plain] at hx117_5 | skip)
                          (first | simp only [add_plain] at hx117_6 | skip)
                          (first | simp only [add_plain] at hx117_7 | skip)
                          (first | simp only [add_plain] at hx117_8 | skip)
                          (first | simp only [add_plain] at hx119_0 | skip)
                          (first | simp only [add_plain] at hx119_1 | skip)
                          (first | simp only [add_plain] at hx119_2 | skip)
                          (first | simp only [add_plain] at hx119_3 | skip)
                          (first | simp only [add_plain] at hx119_4 | skip)
                          (first | simp only [add_plain] at hx119_5 | skip)
                          (first | simp only [add_plain] at hx119_6 | skip)
                          (first | simp only [add_plain] at hx119_7 | skip)
                          (first | simp only [add_plain] at hx119_8 | skip)
                          obtain ⟨ce18, hcl18, hM18, hcc18, hfr18⟩ := Kd.R_elem HO_3.out z106 ((ji12) : Int) p18 q18
                          obtain rfl := k106_openM hM18
                          have hx18_0 : World.cell? _ ⟨go18, ((ji12) : Int).toNat * 9, none⟩ = some (.string ((rd_T106 x3_1 (ji12)).f0.f0)) := hcc18 0 _ rfl
                          have hx18_1 : World.cell? _ ⟨go18, ((ji12) : Int).toNat * 9 + 1, none⟩ = some (.string ((rd_T106 x3_1 (ji12)).f0.f1)) := hcc18 1 _ rfl
                          have hx18_2 : World.cell? _ ⟨go18, ((ji12) : Int).toNat * 9 + 2, none⟩ = some (.string ((rd_T106 x3_1 (ji12)).f0.f2)) := hcc18 2 _ rfl
                          have hx18_3 : World.cell? _ ⟨go18, ((ji12) : Int).toNat * 9 + 3, none⟩ = some (.bool ((rd_T106 x3_1 (ji12)).f1)) := hcc18 3 _ rfl
                          have hx18_4 : World.cell? _ ⟨go18, ((ji12) : Int).toNat * 9 + 4, none⟩ = some (.string ((rd_T106 x3_1 (ji12)).f2)) := hcc18 4 _ rfl
                          have hx18_5 : World.cell? _ ⟨go18, ((ji12) : Int).toNat * 9 + 5, none⟩ = some (.string ((rd_T106 x3_1 (ji12)).f3)) := hcc18 5 _ rfl
                          have hx18_6 : World.cell? _ ⟨go18, ((ji12) : Int).toNat * 9 + 6, none⟩ = some (.string ((rd_T106 x3_1 (ji12)).f4)) := hcc18 6 _ rfl
                          have hx18_7 : World.cell? _ ⟨go18, ((ji12) : Int).toNat * 9 + 7, none⟩ = some (.string ((rd_T106 x3_1 (ji12)).f5)) := hcc18 7 _ rfl
                          have hx18_8 : World.cell? _ ⟨go18, ((ji12) : Int).toNat * 9 + 8, none⟩ = some (.bool ((rd_T106 x3_1 (ji12)).f6)) := hcc18 8 _ rfl
                          have hf18_0 : World.frozen? _ ⟨go18, ((ji12) : Int).toNat * 9, none⟩ = false := hfr18 0
                          have hf18_1 : World.frozen? _ ⟨go18, ((ji12) : Int).toNat * 9 + 1, none⟩ = false := hfr18 1
                          have hf18_2 : World.frozen? _ ⟨go18, ((ji12) : Int).toNat * 9 + 2, none⟩ = false := hfr18 2
                          have hf18_3 : World.frozen? _ ⟨go18, ((ji12) : Int).toNat * 9 + 3, none⟩ = false := hfr18 3
                          have hf18_4 : World.frozen? _ ⟨go18, ((ji12) : Int).toNat * 9 + 4, none⟩ = false := hfr18 4
                          have hf18_5 : World.frozen? _ ⟨go18, ((ji12) : Int).toNat * 9 + 5, none⟩ = false := hfr18 5
                          have hf18_6 : World.frozen? _ ⟨go18, ((ji12) : Int).toNat * 9 + 6, none⟩ = false := hfr18 6
                          have hf18_7 : World.frozen? _ ⟨go18, ((ji12) : Int).toNat * 9 + 7, none⟩ = false := hfr18 7
                          have hf18_8 : World.frozen? _ ⟨go18, ((ji12) : Int).toNat * 9 + 8, none⟩ = false := hfr18 8
                          clear hcl18 hcc18 hfr18 hM18
                          replace p18 := eq_true p18
                          replace q18 := eq_true q18
                          obtain ⟨ce25, hcl25, hM25, hcc25, hfr25⟩ := Kd.R_elem HO_3.out z106 ((ji12) : Int) (of_decide_eq_true (by first | (with_reducible assumption) | assumption)) (by have h_ : ((ji12) : Int) < ((x3_1.length : Int) : Int) := of_decide_eq_true (by first | (with_reducible assumption) | assumption); first | exact h_ | (have e_ := (Kd.R_reads' HO_3.out).1; omega) | simpa using h_)
                          obtain rfl := k106_openM hM25
                          have HP25 := (Kd.R_seg HO_3.out ((ji12) : Int) (of_decide_eq_true (by first | (with_reducible assumption) | assumption)) (by have h_ : ((ji12) : Int) < ((x3_1.length : Int) : Int) := of_decide_eq_true (by first | (with_reducible assumption) | assumption); first | exact h_ | (have e_ := (Kd.R_reads' HO_3.out).1; omega) | simpa using h_) (seg := [.string (((rd_T106 x3_1 (ji12)).f2) ++ ((rd_T106 l0 x9_1).f2))]) (j := 4) hcl25 hcc25 (show 5 ≤ 9 from by decide) (x' := (⟨(⟨(rd_T106 x3_1 (ji12)).f0.f0, (rd_T106 x3_1 (ji12)).f0.f1, (rd_T106 x3_1 (ji12)).f0.f2⟩ : S84), (rd_T106 x3_1 (ji12)).f1, ((rd_T106 x3_1 (ji12)).f2) ++ ((rd_T106 l0 x9_1).f2), (rd_T106 x3_1 (ji12)).f3, (rd_T106 x3_1 (ji12)).f4, (rd_T106 x3_1 (ji12)).f5, (rd_T106 x3_1 (ji12)).f6⟩ : S106)) (k106_mkM _ _ _ (⟨(⟨(rd_T106 x3_1 (ji12)).f0.f0, (rd_T106 x3_1 (ji12)).f0.f1, (rd_T106 x3_1 (ji12)).f0.f2⟩ : S84), (rd_T106 x3_1 (ji12)).f1, ((rd_T106 x3_1 (ji12)).f2) ++ ((rd_T106 l0 x9_1).f2), (rd_T106 x3_1 (ji12)).f3, (rd_T106 x3_1 (ji12)).f4, (rd_T106 x3_1 (ji12)).f5, (rd_T106 x3_1 (ji12)).f6⟩ : S106) ) (fun _ hk => hk)).1
                          rw [← Ny120.out] at HP25
                          have HQ25 := Aside0.mk HP25
                          clear hcl25 hcc25 hfr25 hM25 HP25
                          refine start_ (n := 12) (S := fun w' => w'.cell? ⟨gb115, 0, none⟩ = some (.string ((rd_T106 l0 x9_1).f0.f0)) ∧ w'.cell? ⟨gb115, 1, none⟩ = some (.string ((rd_T106 l0 x9_1).f0.f1)) ∧ w'.cell? ⟨gb115, 2, none⟩ = some (.string ((rd_T106 l0 x9_1).f0.f2)) ∧ w'.cell? ⟨gb115, 3, none⟩ = some (.bool ((rd_T106 l0 x9_1).f1)) ∧ w'.cell? ⟨gb115, 4, none⟩ = some (.string ((rd_T106 l0 x9_1).f2)) ∧ w'.cell? ⟨gb115, 5, none⟩ = some (.string ((rd_T106 l0 x9_1).f3)) ∧ w'.cell? ⟨gb115, 6, none⟩ = some (.string ((rd_T106 l0 x9_1).f4)) ∧ w'.cell? ⟨gb115, 7, none⟩ = some (.string ((rd_T106 l0 x9_1).f5)) ∧ w'.cell? ⟨gb115, 8, none⟩ = some (.bool ((rd_T106 l0 x9_1).f6)) ∧ w'.cell? ⟨go18, ((ji12)).toNat * 9, none⟩ = some (.string ((rd_T106 x3_1 (ji12)).f0.f0)) ∧ w'.cell? ⟨go18, ((ji12)).toNat * 9 + 1, none⟩ = some (.string ((rd_T106 x3_1 (ji12)).f0.f1)) ∧ w'.cell? ⟨go18, ((ji12)).toNat * 9 + 2, none⟩ = some (.string ((rd_T106 x3_1 (ji12)).f0.f2)) ∧ w'.cell? ⟨go18, ((ji12)).toNat * 9 + 3, none⟩ = some (.bool ((rd_T106 x3_1 (ji12)).f1)) ∧ w'.cell? ⟨go18, ((ji12)).toNat * 9 + 4, none⟩ = some (.string ((rd_T106 x3_1 (ji12)).f2)) ∧ w'.cell? ⟨go18, ((ji12)).toNat * 9 + 5, none⟩ = some (.string ((rd_T106 x3_1 (ji12)).f3)) ∧ w'.cell? ⟨go18, ((ji12)).toNat * 9 + 6, none⟩ = some (.string ((rd_T106 x3_1 (ji12)).f4)) ∧ w'.cell? ⟨go18, ((ji12)).toNat * 9 + 7, none⟩ = some (.string ((rd_T106 x3_1 (ji12)).f5)) ∧ w'.cell? ⟨go18, ((ji12)).toNat * 9 + 8, none⟩ = some (.bool ((rd_T106 x3_1 (ji12)).f6))) (ds := [11]) #[false, false, false, false, false, false, false, false, false, false, false, false] (by kernel_rfl) rfl rfl ⟨(blk_cell BK115.out 0).trans rfl, (blk_cell BK115.out 1).trans rfl, (blk_cell BK115.out 2).trans rfl, (blk_cell BK115.out 3).trans rfl, (blk_cell BK115.out 4).trans rfl, (blk_cell BK115.out 5).trans rfl, (blk_cell BK115.out 6).trans rfl, (blk_cell BK115.out 7).trans rfl, (blk_cell BK115.out 8).trans rfl, hx119_0, hx119_1, hx119_2, hx119_3, hx119_4, hx119_5, hx119_6, hx119_7, hx119_8⟩ (fun hHeld => ?_); refine with_tabW doc_Of.tab9 doc_Of.bits9 (fun HT_ HW_ => ?_)
                          generalize w23.drew = w24 at HO_3 BK115 HB GG18 HQ25 hf18_0 hf18_1 hf18_2 hf18_3 hf18_4 hf18_5 hf18_6 hf18_7 hf18_8 hx117_0 hx117_1 hx117_2 hx117_3 hx117_4 hx117_5 hx117_6 hx117_7 hx117_8 hx119_0 hx119_1 hx119_2 hx119_3 hx119_4 hx119_5 hx119_6 hx119_7 hx119_8 hx18_0 hx18_1 hx18_2 hx18_3 hx18_4 hx18_5 hx18_6 hx18_7 hx18_8 hHeld ⊢
                          refine pure_ (i := 0) (N := some 38) (v := ?_) (a' := ?_) #[true, false, false, false, false, false, false, false, false, false, false, false] rfl rfl (any_of HT_.out (by kernel_rfl)) (fun _ _ _ h => h) (Or.inl ⟨by rfl, ?_⟩) ?_ ?_
                          rotate_left
                          · intro w'
                            go_simp
                            with_reducible rfl
                          rotate_left
                          · simp only [Act.put, List.setIfInBounds_toArray, List.set_cons_zero, List.set_cons_succ, i64_w, i32_w]
                            rfl
                          refine pure_ (i := 1) (N := some 39) (v := ?_) (a' := ?_) #[true, true, false, false, false, false, false, false, false, false, false, false] rfl rfl (any_of HT_.out (by kernel_rfl)) (fun _ _ _ h => h) (Or.inl ⟨by rfl, ?_⟩) ?_ ?_
                          rotate_left
                          · intro w'
                            go_simp
                            with_reducible rfl
                          rotate_left
                          · simp only [Act.put, List.setIfInBounds_toArray, List.set_cons_zero, List.set_cons_succ, i64_w, i32_w]
                            rfl
                          refine pure_ (i := 2) (N := some 40) (v := ?_) (a' := ?_) #[true, true, true, false, false, false, false, false, false, false, false, false] rfl rfl (any_of HT_.out (by kernel_rfl)) (fun _ _ _ h => h) (Or.inl ⟨by rfl, ?_⟩) ?_ ?_
                          rotate_left
                          · intro w'
                            go_simp
                            with_reducible rfl
                          rotate_left
                          · simp only [Act.put, List.setIfInBounds_toArray, List.set_cons_zero, List.set_cons_succ, i64_w, i32_w]
                            rfl
                          refine pure_ (i := 3) (N := some 41) (v := ?_) (a' := ?_) #[true, true, true, true, false, false, false, false, false, false, false, false] rfl rfl (any_of HT_.out (by kernel_rfl)) (fun _ _ _ h => h) (Or.inl ⟨by rfl, ?_⟩) ?_ ?_
                          rotate_left
                          · intro w'
                            go_simp
                            with_reducible rfl
                          rotate_left
                          · simp only [Act.put, List.setIfInBounds_toArray, List.set_cons_zero, List.set_cons_succ, i64_w, i32_w]
                            rfl
                          refine pure_ (i := 4) (N := some 42) (v := ?_) (a' := ?_) #[true, true, true, true, true, false, false, false, false, false, false, false] rfl rfl (any_of HT_.out (by kernel_rfl)) (fun _ _ _ h => h) (Or.inl ⟨by rfl, ?_⟩) ?_ ?_
                          rotate_left
                          · intro w'
                            go_simp
                            with_reducible rfl
                          rotate_left
                          · simp only [Act.put, List.setIfInBounds_toArray, List.set_cons_zero, List.set_cons_succ, i64_w, i32_w]
                            rfl
                          refine pure_ (i := 6) (N := some 44) (v := ?_) (a' := ?_) #[true, true, true, true, true, false, true, false, false, false, false, false] rfl rfl (any_of HT_.out (by kernel_rfl)) (fun _ _ _ h => h) (Or.inl ⟨by rfl, ?_⟩) ?_ ?_
                          rotate_left
                          · intro w'
                            go_simp
                            with_reducible rfl
                          rotate_left
                          · simp only [Act.put, List.setIfInBounds_toArray, List.set_cons_zero, List.set_cons_succ, i64_w, i32_w]
                            rfl
                          refine take_ (i := 5) (N := some 43) (v := ?_) (a' := ?_) #[true, true, true, true, true, true, true, false, false, false, false, false] rfl rfl (take_ofW HT_.out HW_.out (by kernel_rfl)) (fun _ _ _ h => h) (Or.inl ⟨by rfl, ?_⟩) hHeld ?_ ?_
                          rotate_left
                          · rintro w' ⟨s0, s1, s2, s3, s4, s5, s6, s7, s8, s9, s10, s11, s12, s13, s14, s15, s16, s17⟩
                            go_simp
                            with_reducible rfl
                          rotate_left
                          · simp only [Act.put, List.setIfInBounds_toArray, List.set_cons_zero, List.set_cons_succ, i64_w, i32_w]
                            rfl
                          refine take_ (i := 7) (N := some 45) (v := ?_) (a' := ?_) #[true, true, true, true, true, true, true, true, false, false, false, false] rfl rfl (take_ofW HT_.out HW_.out (by kernel_rfl)) (fun _ _ _ h => h) (Or.inl ⟨by rfl, ?_⟩) hHeld ?_ ?_
                          rotate_left
                          · rintro w' ⟨s0, s1, s2, s3, s4, s5, s6, s7, s8, s9, s10, s11, s12, s13, s14, s15, s16, s17⟩
                            go_simp
                            with_reducible rfl
                          rotate_left
                          · simp only [Act.put, List.setIfInBounds_toArray, List.set_cons_zero, List.set_cons_succ, i64_w, i32_w]
                            rfl
                          refine pure_ (i := 8) (N := some 46) (v := ?_) (a' := ?_) #[true, true, true, true, true, true, true, true, true, false, false, false] rfl rfl (any_of HT_.out (by kernel_rfl)) (fun _ _ _ h => h) (Or.inl ⟨by rfl, ?_⟩) ?_ ?_
                          rotate_left
                          · intro w'
                            go_simp
                            with_reducible rfl
                          rotate_left
                          · simp only [Act.put, List.setIfInBounds_toArray, List.set_cons_zero, List.set_cons_succ, i64_w, i32_w]
                            rfl
                          refine pure_ (i := 9) (N := some 47) (v := ?_) (a' := ?_) #[true, true, true, true, true, true, true, true, true, true, false, false] rfl rfl (any_of HT_.out (by kernel_rfl)) (fun _ _ _ h => h) (Or.inl ⟨by rfl, ?_⟩) ?_ ?_
                          rotate_left
                          · intro w'
                            go_simp
                            with_reducible rfl
                          rotate_left
                          · simp only [Act.put, List.setIfInBounds_toArray, List.set_cons_zero, List.set_cons_succ, i64_w, i32_w]
                            rfl
                          refine pure_ (i := 10) (N := some 48) (v := ?_) (a' := ?_) #[true, true, true, true, true, true, true, true, true, true, true, false] rfl rfl (any_of HT_.out (by kernel_rfl)) (fun _ _ _ h => h) (Or.inl ⟨by rfl, ?_⟩) ?_ ?_
                          rotate_left
                          · intro w'
                            go_simp
                            with_reducible rfl
                          rotate_left
                          · simp only [Act.put, List.setIfInBounds_toArray, List.set_cons_zero, List.set_cons_succ, i64_w, i32_w]
                            rfl
                          refine last_ (i := 11) (N := none) #[true, true, true, true, true, true, true, true, true, true, true, true] rfl rfl (one_of HT_.out (by kernel_rfl)) (by decide) (fun K hK => ?_)
                          refine skip_ (w1 := ?_) (by rfl) rfl ?_ ?_
                          rotate_left
                          · go_simp
                            rfl
                          refine hK.out _ _ ?_
                          clear hK K
                          refine done_ (done_of HT_.out (by kernel_rfl)) ?_
                          try go_wp2
                          go_roundg k1
                          case measure => have := HK1.out; omega
                          case rel => exact ⟨(y120), (wrap64 (x9_1 + 1)), (by first | rfl | (simp; done) | (simp [*]; done)), H', ⟨by have := HK1.out; omega⟩, ⟨by (with_reducible repeat (first | apply Kd.R_alloc | apply Kd.R_drewN | apply Kd.R_drew)); exact Kd.R_mono HQ25.out (fun _ hk => trivial)⟩, ⟨by repeat (first | (with_reducible first | exact HB.out | apply below_alloc | apply pw_below_drewN | apply below_drew1 | refine below_set ?_ GB18.out | refine below_set ?_ GE115.out) | exact HB.out)⟩⟩
                        · rw [if_neg c17] at H
                          exact absurd H (by simp)
                      · replace c16 := Bool.eq_false_iff.mpr c16
                        subst c16
                        have H1 : (if x3_1.length < 1099511627776 then (doc_Of.l0 k1 (x3_1 ++ [(⟨(⟨(rd_T106 l0 x9_1).f0.f0, (rd_T106 l0 x9_1).f0.f1, (rd_T106 l0 x9_1).f0.f2⟩ : S84), (rd_T106 l0 x9_1).f1, (rd_T106 l0 x9_1).f2, (rd_T106 l0 x9_1).f3, (rd_T106 l0 x9_1).f4, (rd_T106 l0 x9_1).f5, (rd_T106 l0 x9_1).f6⟩ : S106)]) l0 (l0.length : Int) (wrap64 (x9_1 + 1))) else (none)) = some r := by rw [if_neg (show ¬ (false = true) by decide)] at H; exact H
                        clear H
                        have H := H1
                        clear H1
                        by_cases c26 : x3_1.length < 1099511627776
                        · rw [if_pos c26] at H
                          have LMc26 := Aside0.mk c26
                          clear c26
                          obtain ⟨y121, hy121⟩ : ∃ y_ : List (S106), y_ = (x3_1 ++ [(⟨(⟨(rd_T106 l0 x9_1).f0.f0, (rd_T106 l0 x9_1).f0.f1, (rd_T106 l0 x9_1).f0.f2⟩ : S84), (rd_T106 l0 x9_1).f1, (rd_T106 l0 x9_1).f2, (rd_T106 l0 x9_1).f3, (rd_T106 l0 x9_1).f4, (rd_T106 l0 x9_1).f5, (rd_T106 l0 x9_1).f6⟩ : S106)]) := ⟨_, rfl⟩
                          replace H : (doc_Of.l0 k1 y121 l0 (l0.length : Int) (wrap64 (x9_1 + 1))) = some r := by first | (rw [hy121]; with_reducible exact H) | (have H2_ := (Option.bind_some _ _).symm.trans H; rw [hy121]; with_reducible exact H2_) | (have H2_ := (Option.bind_some _ _).symm.trans H; with_reducible exact H2_) | with_reducible exact H | (rw [hy121]; exact H) | exact H
                          have Ny121 := Aside0.mk hy121
                          clear hy121
                          have H' := Aside0.mk H
                          clear H
                          have p114 : 0 ≤ (x9_1 : Int) := of_decide_eq_true (by first | (with_reducible assumption) | assumption)
                          have q114 : x9_1 < (l0.length : Int) := of_decide_eq_true (by first | (with_reducible assumption) | assumption)
                          obtain ⟨ad114, e114, hx114_0, hx114_1, hx114_2, hx114_3, hx114_4, hx114_5, hx114_6, hx114_7, hx114_8⟩ := at_T106 HR0.out x9_1 p114 q114
                          cases e114
                          replace hx114_0 := (HB.out.cell (World.block_lt_of_cell? w _ hx114_0)).trans hx114_0
                          replace hx114_1 := (HB.out.cell (World.block_lt_of_cell? w _ hx114_1)).trans hx114_1
                          replace hx114_2 := (HB.out.cell (World.block_lt_of_cell? w _ hx114_2)).trans hx114_2
                          replace hx114_3 := (HB.out.cell (World.block_lt_of_cell? w _ hx114_3)).trans hx114_3
                          replace hx114_4 := (HB.out.cell (World.block_lt_of_cell? w _ hx114_4)).trans hx114_4
                          replace hx114_5 := (HB.out.cell (World.block_lt_of_cell? w _ hx114_5)).trans hx114_5
                          replace hx114_6 := (HB.out.cell (World.block_lt_of_cell? w _ hx114_6)).trans hx114_6
                          replace hx114_7 := (HB.out.cell (World.block_lt_of_cell? w _ hx114_7)).trans hx114_7
                          replace hx114_8 := (HB.out.cell (World.block_lt_of_cell? w _ hx114_8)).trans hx114_8
                          replace p114 := eq_true p114
                          replace q114 := eq_true q114
                          go_wp2_with (first | ((with_reducible refine gate_dst (N := 5) rfl ?_); refine box_event ?hg (N := 5) ?hd (cs := #[.string (⟨#[]⟩ : ByteArray), .string (⟨#[]⟩ : ByteArray), .string (⟨#[]⟩ : ByteArray), .bool false, .string (⟨#[]⟩ : ByteArray), .string (⟨#[]⟩ : ByteArray), .string (⟨#[]⟩ : ByteArray), .string (⟨#[]⟩ : ByteArray), .bool false]) (t := 106) ?hr ?_; (case hd => rfl); (case hg => rfl); (case hr => first | (go_simp; done) | (go_simp; rfl)); intro gb115 hg w27 hbox hb; have n0_ := Aside0.mk (Kd.R_below (Kd.R_elderB (by (with_reducible repeat (first | apply Kd.R_alloc | apply Kd.R_drewN | apply Kd.R_drew)); exact HO_3.out) gb115 (Nat.le_of_eq hg.symm)) hb); have n1_ := Aside0.mk (below_step (by repeat (first | (with_reducible first | exact HB.out | apply below_alloc | apply pw_below_drewN | apply below_drew1) | exact HB.out)) hb); have n2_ := Aside0.mk (hbox); have n3_ := Aside0.mk ((by rw [hg]; exact (below_size (by repeat (first | (with_reducible first | exact HB.out | apply below_alloc | apply pw_below_drewN | apply below_drew1) | exact HB.out))) : w.heap.size ≤ gb115)); have n4_ := Aside0.mk ((by rw [hg]; exact (below_size (by repeat (first | (with_reducible first | exact HB.out | apply below_alloc | apply pw_below_drewN | apply below_drew1) | exact HB.out))) : w.heap.size ≤ gb115)); clear HO_3; clear HB; have HO_3 := n0_; have HB := n1_; have BK115 := n2_; have GW115 := n3_; have GE115 := n4_; clear n0_ n1_ n2_ n3_ n4_; clear hb hbox hg; have hcz28_0 : w27.cell? ⟨gb115, 0, none⟩ = some (.string (⟨#[]⟩ : ByteArray)) := (blk_cell BK115.out 0).trans rfl; have hcz28_1 : w27.cell? ⟨gb115, 1, none⟩ = some (.string (⟨#[]⟩ : ByteArray)) := (blk_cell BK115.out 1).trans rfl; have hcz28_2 : w27.cell? ⟨gb115, 2, none⟩ = some (.string (⟨#[]⟩ : ByteArray)) := (blk_cell BK115.out 2).trans rfl; have hcz28_3 : w27.cell? ⟨gb115, 3, none⟩ = some (.bool false) := (blk_cell BK115.out 3).trans rfl; have hcz28_4 : w27.cell? ⟨gb115, 4, none⟩ = some (.string (⟨#[]⟩ : ByteArray)) := (blk_cell BK115.out 4).trans rfl; have hcz28_5 : w27.cell? ⟨gb115, 5, none⟩ = some (.string (⟨#[]⟩ : ByteArray)) := (blk_cell BK115.out 5).trans rfl; have hcz28_6 : w27.cell? ⟨gb115, 6, none⟩ = some (.string (⟨#[]⟩ : ByteArray)) := (blk_cell BK115.out 6).trans rfl; have hcz28_7 : w27.cell? ⟨gb115, 7, none⟩ = some (.string (⟨#[]⟩ : ByteArray)) := (blk_cell BK115.out 7).trans rfl; have hcz28_8 : w27.cell? ⟨gb115, 8, none⟩ = some (.bool false) := (blk_cell BK115.out 8).trans rfl; have hfz28_0 := blk_frozen BK115.out 0; have hfz28_1 := blk_frozen BK115.out 1; have hfz28_2 := blk_frozen BK115.out 2; have hfz28_3 := blk_frozen BK115.out 3; have hfz28_4 := blk_frozen BK115.out 4; have hfz28_5 := blk_frozen BK115.out 5; have hfz28_6 := blk_frozen BK115.out 6; have hfz28_7 := blk_frozen BK115.out 7; have hfz28_8 := blk_frozen BK115.out 8; obtain ⟨Ao29, co29, eo29⟩ := Kd.R_slice HO_3.out; subst eo29) | ((with_reducible refine gate_callee (f := 75) rfl ?_); refine goesL_ (some 25) rfl rfl Try.func75 (by kernel_rfl) rfl #[.agg #[.string ((rd_T106 l0 x9_1).f0.f0), .string ((rd_T106 l0 x9_1).f0.f1), .string ((rd_T106 l0 x9_1).f0.f2), .bool ((rd_T106 l0 x9_1).f1), .string ((rd_T106 l0 x9_1).f2), .string ((rd_T106 l0 x9_1).f3), .string ((rd_T106 l0 x9_1).f4), .string ((rd_T106 l0 x9_1).f5), .bool ((rd_T106 l0 x9_1).f6)]] rfl (by (try simp only [List.map_toArray, List.map_cons, List.map_nil]); first | done | rfl | (simp only [List.length_drop, List.length_take]; rfl)) ?_; (with_reducible refine (doc_Part_isText.calls ((rd_T106 l0 x9_1).f0.f0) ((rd_T106 l0 x9_1).f0.f1) ((rd_T106 l0 x9_1).f0.f2) ((rd_T106 l0 x9_1).f1) ((rd_T106 l0 x9_1).f2) ((rd_T106 l0 x9_1).f3) ((rd_T106 l0 x9_1).f4) ((rd_T106 l0 x9_1).f5) ((rd_T106 l0 x9_1).f6) true _ A9.out).mono ?_); rintro e w30 ⟨rfl, hb⟩; refine ⟨_, rfl, ?_⟩; have n0_ := Aside0.mk (Kd.R_below (by (with_reducible repeat (first | apply Kd.R_alloc | apply Kd.R_drewN | apply Kd.R_drew)); exact (Kd.R_mono (Kd.R_far (p := ⟨gb115, 8, none⟩) (Kd.R_far (p := ⟨gb115, 7, none⟩) (Kd.R_far (p := ⟨gb115, 6, none⟩) (Kd.R_far (p := ⟨gb115, 5, none⟩) (Kd.R_far (p := ⟨gb115, 4, none⟩) (Kd.R_far (p := ⟨gb115, 3, none⟩) (Kd.R_far (p := ⟨gb115, 2, none⟩) (Kd.R_far (p := ⟨gb115, 1, none⟩) (Kd.R_far (p := ⟨gb115, 0, none⟩) (Kd.R_mono HO_3.out (fun k_ hk => (⟨hk, hk.2⟩ : _ ∧ k_ ≠ gb115))) (fun _ hk => hk.2) (.string ((rd_T106 l0 x9_1).f0.f0))) (fun _ hk => hk.2) (.string ((rd_T106 l0 x9_1).f0.f1))) (fun _ hk => hk.2) (.string ((rd_T106 l0 x9_1).f0.f2))) (fun _ hk => hk.2) (.bool ((rd_T106 l0 x9_1).f1))) (fun _ hk => hk.2) (.string ((rd_T106 l0 x9_1).f2))) (fun _ hk => hk.2) (.string ((rd_T106 l0 x9_1).f3))) (fun _ hk => hk.2) (.string ((rd_T106 l0 x9_1).f4))) (fun _ hk => hk.2) (.string ((rd_T106 l0 x9_1).f5))) (fun _ hk => hk.2) (.bool ((rd_T106 l0 x9_1).f6))) (fun _ h_ => h_.1))) hb); have n1_ := Aside0.mk (blk_below (g := gb115) (o := .cells #[.string ((rd_T106 l0 x9_1).f0.f0), .string ((rd_T106 l0 x9_1).f0.f1), .string ((rd_T106 l0 x9_1).f0.f2), .bool ((rd_T106 l0 x9_1).f1), .string ((rd_T106 l0 x9_1).f2), .string ((rd_T106 l0 x9_1).f3), .string ((rd_T106 l0 x9_1).f4), .string ((rd_T106 l0 x9_1).f5), .bool ((rd_T106 l0 x9_1).f6)] 106 (0, 0)) (by (with_reducible repeat (first | refine blk_drewN ?_ _ | refine blk_drew ?_ | refine blk_alloc ?_ _)); refine blk_put (cs := #[.string ((rd_T106 l0 x9_1).f0.f0), .string ((rd_T106 l0 x9_1).f0.f1), .string ((rd_T106 l0 x9_1).f0.f2), .bool ((rd_T106 l0 x9_1).f1), .string ((rd_T106 l0 x9_1).f2), .string ((rd_T106 l0 x9_1).f3), .string ((rd_T106 l0 x9_1).f4), .string ((rd_T106 l0 x9_1).f5), .bool false]) ?_ 8 _ rfl; (with_reducible repeat (first | refine blk_drewN ?_ _ | refine blk_drew ?_ | refine blk_alloc ?_ _)); refine blk_put (cs := #[.string ((rd_T106 l0 x9_1).f0.f0), .string ((rd_T106 l0 x9_1).f0.f1), .string ((rd_T106 l0 x9_1).f0.f2), .bool ((rd_T106 l0 x9_1).f1), .string ((rd_T106 l0 x9_1).f2), .string ((rd_T106 l0 x9_1).f3), .string ((rd_T106 l0 x9_1).f4), .string (⟨#[]⟩ : ByteArray), .bool false]) ?_ 7 _ rfl; (with_reducible repeat (first | refine blk_drewN ?_ _ | refine blk_drew ?_ | refine blk_alloc ?_ _)); refine blk_put (cs := #[.string ((rd_T106 l0 x9_1).f0.f0), .string ((rd_T106 l0 x9_1).f0.f1), .string ((rd_T106 l0 x9_1).f0.f2), .bool ((rd_T106 l0 x9_1).f1), .string ((rd_T106 l0 x9_1).f2), .string ((rd_T106 l0 x9_1).f3), .string (⟨#[]⟩ : ByteArray), .string (⟨#[]⟩ : ByteArray), .bool false]) ?_ 6 _ rfl; (with_reducible repeat (first | refine blk_drewN ?_ _ | refine blk_drew ?_ | refine blk_alloc ?_ _)); refine blk_put (cs := #[.string ((rd_T106 l0 x9_1).f0.f0), .string ((rd_T106 l0 x9_1).f0.f1), .string ((rd_T106 l0 x9_1).f0.f2), .bool ((rd_T106 l0 x9_1).f1), .string ((rd_T106 l0 x9_1).f2), .string (⟨#[]⟩ : ByteArray), .string (⟨#[]⟩ : ByteArray), .string (⟨#[]⟩ : ByteArray), .bool false]) ?_ 5 _ rfl; (with_reducible repeat (first | refine blk_drewN ?_ _ | refine blk_drew ?_ | refine blk_alloc ?_ _)); refine blk_put (cs := #[.string ((rd_T106 l0 x9_1).f0.f0), .string ((rd_T106 l0 x9_1).f0.f1), .string ((rd_T106 l0 x9_1).f0.f2), .bool ((rd_T106 l0 x9_1).f1), .string (⟨#[]⟩ : ByteArray), .string (⟨#[]⟩ : ByteArray), .string (⟨#[]⟩ : ByteArray), .string (⟨#[]⟩ : ByteArray), .bool false]) ?_ 4 _ rfl; (with_reducible repeat (first | refine blk_drewN ?_ _ | refine blk_drew ?_ | refine blk_alloc ?_ _)); refine blk_put (cs := #[.string ((rd_T106 l0 x9_1).f0.f0), .string ((rd_T106 l0 x9_1).f0.f1), .string ((rd_T106 l0 x9_1).f0.f2), .bool false, .string (⟨#[]⟩ : ByteArray), .string (⟨#[]⟩ : ByteArray), .string (⟨#[]⟩ : ByteArray), .string (⟨#[]⟩ : ByteArray), .bool false]) ?_ 3 _ rfl; (with_reducible repeat (first | refine blk_drewN ?_ _ | refine blk_drew ?_ | refine blk_alloc ?_ _)); refine blk_put (cs := #[.string ((rd_T106 l0 x9_1).f0.f0), .string ((rd_T106 l0 x9_1).f0.f1), .string (⟨#[]⟩ : ByteArray), .bool false, .string (⟨#[]⟩ : ByteArray), .string (⟨#[]⟩ : ByteArray), .string (⟨#[]⟩ : ByteArray), .string (⟨#[]⟩ : ByteArray), .bool false]) ?_ 2 _ rfl; (with_reducible repeat (first | refine blk_drewN ?_ _ | refine blk_drew ?_ | refine blk_alloc ?_ _)); refine blk_put (cs := #[.string ((rd_T106 l0 x9_1).f0.f0), .string (⟨#[]⟩ : ByteArray), .string (⟨#[]⟩ : ByteArray), .bool false, .string (⟨#[]⟩ : ByteArray), .string (⟨#[]⟩ : ByteArray), .string (⟨#[]⟩ : ByteArray), .string (⟨#[]⟩ : ByteArray), .bool false]) ?_ 1 _ rfl; (with_reducible repeat (first | refine blk_drewN ?_ _ | refine blk_drew ?_ | refine blk_alloc ?_ _)); refine blk_put (cs := #[.string (⟨#[]⟩ : ByteArray), .string (⟨#[]⟩ : ByteArray), .string (⟨#[]⟩ : ByteArray), .bool false, .string (⟨#[]⟩ : ByteArray), .string (⟨#[]⟩ : ByteArray), .string (⟨#[]⟩ : ByteArray), .string (⟨#[]⟩ : ByteArray), .bool false]) ?_ 0 _ rfl; (with_reducible repeat (first | refine blk_drewN ?_ _ | refine blk_drew ?_ | refine blk_alloc ?_ _)); exact BK115.out) hb); have n2_ := Aside0.mk (below_step (by repeat (first | (with_reducible first | exact HB.out | apply below_alloc | apply pw_below_drewN | apply below_drew1 | refine below_set ?_ GE115.out) | exact HB.out)) hb); clear HO_3; clear BK115; clear HB; have HO_3 := n0_; have BK115 := n1_; have HB := n2_; clear n0_ n1_ n2_; (try clear hb); (try clear hb2); (try clear hk); (try clear hi); have p117 : 0 ≤ ((ji12) : Int) := of_decide_eq_true (by first | (with_reducible assumption) | assumption); have q117 : (ji12) < (x3_1.length : Int) := of_decide_eq_true (by first | (with_reducible assumption) | assumption); obtain ⟨ad117, e117, hx117_0, hx117_1, hx117_2, hx117_3, hx117_4, hx117_5, hx117_6, hx117_7, hx117_8⟩ := at_T106 (Kd.R_reads' HO_3.out).2.2 (ji12) p117 q117; cases e117; replace p117 := eq_true p117; replace q117 := eq_true q117) | (go_at_call 75; (with_reducible refine (doc_Part_isText.calls ((rd_T106 x3_1 (ji12)).f0.f0) ((rd_T106 x3_1 (ji12)).f0.f1) ((rd_T106 x3_1 (ji12)).f0.f2) ((rd_T106 x3_1 (ji12)).f1) ((rd_T106 x3_1 (ji12)).f2) ((rd_T106 x3_1 (ji12)).f3) ((rd_T106 x3_1 (ji12)).f4) ((rd_T106 x3_1 (ji12)).f5) ((rd_T106 x3_1 (ji12)).f6) false _ A15.out).mono ?_); rintro e w31 ⟨rfl, hb⟩; have n0_ := Aside0.mk (Kd.R_below (by (with_reducible repeat (first | apply Kd.R_alloc | apply Kd.R_drewN | apply Kd.R_drew)); exact HO_3.out) hb); have n1_ := Aside0.mk (blk_below (g := gb115) (o := .cells #[.string ((rd_T106 l0 x9_1).f0.f0), .string ((rd_T106 l0 x9_1).f0.f1), .string ((rd_T106 l0 x9_1).f0.f2), .bool ((rd_T106 l0 x9_1).f1), .string ((rd_T106 l0 x9_1).f2), .string ((rd_T106 l0 x9_1).f3), .string ((rd_T106 l0 x9_1).f4), .string ((rd_T106 l0 x9_1).f5), .bool ((rd_T106 l0 x9_1).f6)] 106 (0, 0)) (by (with_reducible repeat (first | refine blk_drewN ?_ _ | refine blk_drew ?_ | refine blk_alloc ?_ _)); exact BK115.out) hb); have n2_ := Aside0.mk (below_step (by repeat (first | (with_reducible first | exact HB.out | apply below_alloc | apply pw_below_drewN | apply below_drew1 | refine below_set ?_ GE115.out) | exact HB.out)) hb); clear HO_3; clear BK115; clear HB; have HO_3 := n0_; have BK115 := n1_; have HB := n2_; clear n0_ n1_ n2_; (try clear hb); (try clear hb2); (try clear hk); (try clear hi); have hcz32_0 : w31.cell? ⟨gb115, 0, none⟩ = some (.string ((rd_T106 l0 x9_1).f0.f0)) := (blk_cell BK115.out 0).trans rfl; have hcz32_1 : w31.cell? ⟨gb115, 1, none⟩ = some (.string ((rd_T106 l0 x9_1).f0.f1)) := (blk_cell BK115.out 1).trans rfl; have hcz32_2 : w31.cell? ⟨gb115, 2, none⟩ = some (.string ((rd_T106 l0 x9_1).f0.f2)) := (blk_cell BK115.out 2).trans rfl; have hcz32_3 : w31.cell? ⟨gb115, 3, none⟩ = some (.bool ((rd_T106 l0 x9_1).f1)) := (blk_cell BK115.out 3).trans rfl; have hcz32_4 : w31.cell? ⟨gb115, 4, none⟩ = some (.string ((rd_T106 l0 x9_1).f2)) := (blk_cell BK115.out 4).trans rfl; have hcz32_5 : w31.cell? ⟨gb115, 5, none⟩ = some (.string ((rd_T106 l0 x9_1).f3)) := (blk_cell BK115.out 5).trans rfl; have hcz32_6 : w31.cell? ⟨gb115, 6, none⟩ = some (.string ((rd_T106 l0 x9_1).f4)) := (blk_cell BK115.out 6).trans rfl; have hcz32_7 : w31.cell? ⟨gb115, 7, none⟩ = some (.string ((rd_T106 l0 x9_1).f5)) := (blk_cell BK115.out 7).trans rfl; have hcz32_8 : w31.cell? ⟨gb115, 8, none⟩ = some (.bool ((rd_T106 l0 x9_1).f6)) := (blk_cell BK115.out 8).trans rfl; have hfz32_0 := blk_frozen BK115.out 0; have hfz32_1 := blk_frozen BK115.out 1; have hfz32_2 := blk_frozen BK115.out 2; have hfz32_3 := blk_frozen BK115.out 3; have hfz32_4 := blk_frozen BK115.out 4; have hfz32_5 := blk_frozen BK115.out 5; have hfz32_6 := blk_frozen BK115.out 6; have hfz32_7 := blk_frozen BK115.out 7; have hfz32_8 := blk_frozen BK115.out 8) | ((with_reducible refine gate_builtin (b := .append) (xs := #[.tmp 15, .tmp 17]) rfl ?_); at_builtin; refine Kd.R_append k106 (w0 := w) w.heap.size rfl (.tmp 15) (.tmp 17) 29 106 (.agg #[(.string ⟨#[]⟩), (.string ⟨#[]⟩), (.string ⟨#[]⟩), (.bool false), (.string ⟨#[]⟩), (.string ⟨#[]⟩), (.string ⟨#[]⟩), (.string ⟨#[]⟩), (.bool false)]) 128 rfl Try.underlying29 info106 rfl (by decide) (by omega) (.slice (some ad117) x3_1.length co29) x3_1 (⟨(⟨(rd_T106 l0 x9_1).f0.f0, (rd_T106 l0 x9_1).f0.f1, (rd_T106 l0 x9_1).f0.f2⟩ : S84), (rd_T106 l0 x9_1).f1, (rd_T106 l0 x9_1).f2, (rd_T106 l0 x9_1).f3, (rd_T106 l0 x9_1).f4, (rd_T106 l0 x9_1).f5, (rd_T106 l0 x9_1).f6⟩ : S106) [.string ((rd_T106 l0 x9_1).f0.f0), .string ((rd_T106 l0 x9_1).f0.f1), .string ((rd_T106 l0 x9_1).f0.f2), .bool ((rd_T106 l0 x9_1).f1), .string ((rd_T106 l0 x9_1).f2), .string ((rd_T106 l0 x9_1).f3), .string ((rd_T106 l0 x9_1).f4), .string ((rd_T106 l0 x9_1).f5), .bool ((rd_T106 l0 x9_1).f6)] (fun k_ => k_ ≠ gb115) (fun _ => False) rfl rfl ?aP (fun _ hk => hk.elim) ?aF ?aO ?aB ?aS ?aL ?_; (case aP => exact k106_mkM _ _ _ (⟨(⟨(rd_T106 l0 x9_1).f0.f0, (rd_T106 l0 x9_1).f0.f1, (rd_T106 l0 x9_1).f0.f2⟩ : S84), (rd_T106 l0 x9_1).f1, (rd_T106 l0 x9_1).f2, (rd_T106 l0 x9_1).f3, (rd_T106 l0 x9_1).f4, (rd_T106 l0 x9_1).f5, (rd_T106 l0 x9_1).f6⟩ : S106)); (case aB => exact (by repeat (first | (with_reducible first | exact HB.out | apply below_alloc | apply pw_below_drewN | apply below_drew1 | refine below_set ?_ GE115.out) | exact HB.out))); (case aF => exact (fun k_ hk => Kd.freshB (g := gb115) (o := .cells #[.string ((rd_T106 l0 x9_1).f0.f0), .string ((rd_T106 l0 x9_1).f0.f1), .string ((rd_T106 l0 x9_1).f0.f2), .bool ((rd_T106 l0 x9_1).f1), .string ((rd_T106 l0 x9_1).f2), .string ((rd_T106 l0 x9_1).f3), .string ((rd_T106 l0 x9_1).f4), .string ((rd_T106 l0 x9_1).f5), .bool ((rd_T106 l0 x9_1).f6)] 106 (0, 0)) (by (with_reducible repeat (first | refine blk_drewN ?_ _ | refine blk_drew ?_ | refine blk_alloc ?_ _)); exact BK115.out) k_ hk)); (case aO => exact (by (with_reducible repeat (first | apply Kd.R_alloc | apply Kd.R_drewN | apply Kd.R_drew)); exact Kd.R_mono HO_3.out (fun _ hk => hk.2))); (case aS => exact (below_size (by repeat (first | (with_reducible first | exact HB.out | apply below_alloc | apply pw_below_drewN | apply below_drew1 | refine below_set ?_ GE115.out) | exact HB.out)))); (case aL => have := LMc26.out; omega); intro v122 w33 ho hb hg hat; rw [← Ny121.out] at ho; have n0_ := Aside0.mk (blk_grown (g := gb115) (o := .cells #[.string ((rd_T106 l0 x9_1).f0.f0), .string ((rd_T106 l0 x9_1).f0.f1), .string ((rd_T106 l0 x9_1).f0.f2), .bool ((rd_T106 l0 x9_1).f1), .string ((rd_T106 l0 x9_1).f2), .string ((rd_T106 l0 x9_1).f3), .string ((rd_T106 l0 x9_1).f4), .string ((rd_T106 l0 x9_1).f5), .bool ((rd_T106 l0 x9_1).f6)] 106 (0, 0)) (by (with_reducible repeat (first | refine blk_drewN ?_ _ | refine blk_drew ?_ | refine blk_alloc ?_ _)); exact BK115.out) hg (Kd.R_away HO_3.out (fun _ hk => hk.2))); have n1_ := Aside0.mk (hb); have n2_ := Aside0.mk (ho); clear BK115; clear HB; clear HO_3; have BK115 := n0_; have HB := n1_; have HO123 := n2_; clear n0_ n1_ n2_; clear ho hb hg hat))
                          go_roundg k1
                          case measure => have := HK1.out; omega
                          case rel => exact ⟨(y121), (wrap64 (x9_1 + 1)), (by first | rfl | (simp; done) | (simp [*]; done)), H', ⟨by have := HK1.out; omega⟩, ⟨by (with_reducible repeat (first | apply Kd.R_alloc | apply Kd.R_drewN | apply Kd.R_drew)); exact Kd.R_mono HO123.out (fun _ hk => trivial)⟩, ⟨by repeat (first | (with_reducible first | exact HB.out | apply below_alloc | apply pw_below_drewN | apply below_drew1 | refine below_set ?_ GE115.out) | exact HB.out)⟩⟩
                        · rw [if_neg c26] at H
                          exact absurd H (by simp)
                    · rw [if_neg c14] at H
                      exact absurd H (by simp)
                  · rw [if_neg c13] at H
                    exact absurd H (by simp)
                · rw [if_neg c11] at H
                  have c11b0 : decide (0 < (x3_1.length : Int)) = false := decide_eq_false c11
                  have c11b1 : decide (0 < x3_1.length) = false := decide_eq_false (by omega)
                  clear c11
                  by_cases c34 : x3_1.length < 1099511627776
                  · rw [if_pos c34] at H
                    have LMc34 := Aside0.mk c34
                    clear c34
                    obtain ⟨y124, hy124⟩ : ∃ y_ : List (S106), y_ = (x3_1 ++ [(⟨(⟨(rd_T106 l0 x9_1).f0.f0, (rd_T106 l0 x9_1).f0.f1, (rd_T106 l0 x9_1).f0.f2⟩ : S84), (rd_T106 l0 x9_1).f1, (rd_T106 l0 x9_1).f2, (rd_T106 l0 x9_1).f3, (rd_T106 l0 x9_1).f4, (rd_T106 l0 x9_1).f5, (rd_T106 l0 x9_1).f6⟩ : S106)]) := ⟨_, rfl⟩
                    replace H : (doc_Of.l0 k1 y124 l0 (l0.length : Int) (wrap64 (x9_1 + 1))) = some r := by first | (rw [hy124]; with_reducible exact H) | (have H2_ := (Option.bind_some _ _).symm.trans H; rw [hy124]; with_reducible exact H2_) | (have H2_ := (Option.bind_some _ _).symm.trans H; with_reducible exact H2_) | with_reducible exact H | (rw [hy124]; exact H) | exact H
                    have Ny124 := Aside0.mk hy124
                    clear hy124
                    have H' := Aside0.mk H
                    clear H
                    have p114 : 0 ≤ (x9_1 : Int) := of_decide_eq_true (by first | (with_reducible assumption) | assumption)
                    have q114 : x9_1 < (l0.length : Int) := of_decide_eq_true (by first | (with_reducible assumption) | assumption)
                    obtain ⟨ad114, e114, hx114_0, hx114_1, hx114_2, hx114_3, hx114_4, hx114_5, hx114_6, hx114_7, hx114_8⟩ := at_T106 HR0.out x9_1 p114 q114
                    cases e114
                    replace hx114_0 := (HB.out.cell (World.block_lt_of_cell? w _ hx114_0)).trans hx114_0
                    replace hx114_1 := (HB.out.cell (World.block_lt_of_cell? w _ hx114_1)).trans hx114_1
                    replace hx114_2 := (HB.out.cell (World.block_lt_of_cell? w _ hx114_2)).trans hx114_2
                    replace hx114_3 := (HB.out.cell (World.block_lt_of_cell? w _ hx114_3)).trans hx114_3
                    replace hx114_4 := (HB.out.cell (World.block_lt_of_cell? w _ hx114_4)).trans hx114_4
                    replace hx114_5 := (HB.out.cell (World.block_lt_of_cell? w _ hx114_5)).trans hx114_5
                    replace hx114_6 := (HB.out.cell (World.block_lt_of_cell? w _ hx114_6)).trans hx114_6
                    replace hx114_7 := (HB.out.cell (World.block_lt_of_cell? w _ hx114_7)).trans hx114_7
                    replace hx114_8 := (HB.out.cell (World.block_lt_of_cell? w _ hx114_8)).trans hx114_8
                    replace p114 := eq_true p114
                    replace q114 := eq_true q114
                    go_wp2_with (first | ((with_reducible refine gate_dst (N := 5) rfl ?_); refine box_event ?hg (N := 5) ?hd (cs := #[.string (⟨#[]⟩ : ByteArray), .string (⟨#[]⟩ : ByteArray), .string (⟨#[]⟩ : ByteArray), .bool false, .string (⟨#[]⟩ : ByteArray), .string (⟨#[]⟩ : ByteArray), .string (⟨#[]⟩ : ByteArray), .string (⟨#[]⟩ : ByteArray), .bool false]) (t := 106) ?hr ?_; (case hd => rfl); (case hg => rfl); (case hr => first | (go_simp; done) | (go_simp; rfl)); intro gb115 hg w35 hbox hb; have n0_ := Aside0.mk (Kd.R_below (Kd.R_elderB (by (with_reducible repeat (first | apply Kd.R_alloc | apply Kd.R_drewN | apply Kd.R_drew)); exact HO_3.out) gb115 (Nat.le_of_eq hg.symm)) hb); have n1_ := Aside0.mk (below_step (by repeat (first | (with_reducible first | exact HB.out | apply below_alloc | apply pw_below_drewN | apply below_drew1) | exact HB.out)) hb); have n2_ := Aside0.mk (hbox); have n3_ := Aside0.mk ((by rw [hg]; exact (below_size (by repeat (first | (with_reducible first | exact HB.out | apply below_alloc | apply pw_below_drewN | apply below_drew1) | exact HB.out))) : w.heap.size ≤ gb115)); have n4_ := Aside0.mk ((by rw [hg]; exact (below_size (by repeat (first | (with_reducible first | exact HB.out | apply below_alloc | apply pw_below_drewN | apply below_drew1) | exact HB.out))) : w.heap.size ≤ gb115)); clear HO_3; clear HB; have HO_3 := n0_; have HB := n1_; have BK115 := n2_; have GW115 := n3_; have GE115 := n4_; clear n0_ n1_ n2_ n3_ n4_; clear hb hbox hg; have hcz36_0 : w35.cell? ⟨gb115, 0, none⟩ = some (.string (⟨#[]⟩ : ByteArray)) := (blk_cell BK115.out 0).trans rfl; have hcz36_1 : w35.cell? ⟨gb115, 1, none⟩ = some (.string (⟨#[]⟩ : ByteArray)) := (blk_cell BK115.out 1).trans rfl; have hcz36_2 : w35.cell? ⟨gb115, 2, none⟩ = some (.string (⟨#[]⟩ : ByteArray)) := (blk_cell BK115.out 2).trans rfl; have hcz36_3 : w35.cell? ⟨gb115, 3, none⟩ = some (.bool false) := (blk_cell BK115.out 3).trans rfl; have hcz36_4 : w35.cell? ⟨gb115, 4, none⟩ = some (.string (⟨#[]⟩ : ByteArray)) := (blk_cell BK115.out 4).trans rfl; have hcz36_5 : w35.cell? ⟨gb115, 5, none⟩ = some (.string (⟨#[]⟩ : ByteArray)) := (blk_cell BK115.out 5).trans rfl; have hcz36_6 : w35.cell? ⟨gb115, 6, none⟩ = some (.string (⟨#[]⟩ : ByteArray)) := (blk_cell BK115.out 6).trans rfl; have hcz36_7 : w35.cell? ⟨gb115, 7, none⟩ = some (.string (⟨#[]⟩ : ByteArray)) := (blk_cell BK115.out 7).trans rfl; have hcz36_8 : w35.cell? ⟨gb115, 8, none⟩ = some (.bool false) := (blk_cell BK115.out 8).trans rfl; have hfz36_0 := blk_frozen BK115.out 0; have hfz36_1 := blk_frozen BK115.out 1; have hfz36_2 := blk_frozen BK115.out 2; have hfz36_3 := blk_frozen BK115.out 3; have hfz36_4 := blk_frozen BK115.out 4; have hfz36_5 := blk_frozen BK115.out 5; have hfz36_6 := blk_frozen BK115.out 6; have hfz36_7 := blk_frozen BK115.out 7; have hfz36_8 := blk_frozen BK115.out 8; obtain ⟨Ao37, co37, eo37⟩ := Kd.R_slice HO_3.out; subst eo37) | ((with_reducible refine gate_callee (f := 75) rfl ?_); refine goesL_ (some 25) rfl rfl Try.func75 (by kernel_rfl) rfl #[.agg #[.string ((rd_T106 l0 x9_1).f0.f0), .string ((rd_T106 l0 x9_1).f0.f1), .string ((rd_T106 l0 x9_1).f0.f2), .bool ((rd_T106 l0 x9_1).f1), .string ((rd_T106 l0 x9_1).f2), .string ((rd_T106 l0 x9_1).f3), .string ((rd_T106 l0 x9_1).f4), .string ((rd_T106 l0 x9_1).f5), .bool ((rd_T106 l0 x9_1).f6)]] rfl (by (try simp only [List.map_toArray, List.map_cons, List.map_nil]); first | done | rfl | (simp only [List.length_drop, List.length_take]; rfl)) ?_; (with_reducible refine (doc_Part_isText.calls ((rd_T106 l0 x9_1).f0.f0) ((rd_T106 l0 x9_1).f0.f1) ((rd_T106 l0 x9_1).f0.f2) ((rd_T106 l0 x9_1).f1) ((rd_T106 l0 x9_1).f2) ((rd_T106 l0 x9_1).f3) ((rd_T106 l0 x9_1).f4) ((rd_T106 l0 x9_1).f5) ((rd_T106 l0 x9_1).f6) true _ A9.out).mono ?_); rintro e w38 ⟨rfl, hb⟩; refine ⟨_, rfl, ?_⟩; have n0_ := Aside0.mk (Kd.R_below (by (with_reducible repeat (first | apply Kd.R_alloc | apply Kd.R_drewN | apply Kd.R_drew)); exact (Kd.R_mono (Kd.R_far (p := ⟨gb115, 8, none⟩) (Kd.R_far (p := ⟨gb115, 7, none⟩) (Kd.R_far (p := ⟨gb115, 6, none⟩) (Kd.R_far (p := ⟨gb115, 5, none⟩) (Kd.R_far (p := ⟨gb115, 4, none⟩) (Kd.R_far (p := ⟨gb115, 3, none⟩) (Kd.R_far (p := ⟨gb115, 2, none⟩) (Kd.R_far (p := ⟨gb115, 1, none⟩) (Kd.R_far (p := ⟨gb115, 0, none⟩) (Kd.R_mono HO_3.out (fun k_ hk => (⟨hk, hk.2⟩ : _ ∧ k_ ≠ gb115))) (fun _ hk => hk.2) (.string ((rd_T106 l0 x9_1).f0.f0))) (fun _ hk => hk.2) (.string ((rd_T106 l0 x9_1).f0.f1))) (fun _ hk => hk.2) (.string ((rd_T106 l0 x9_1).f0.f2))) (fun _ hk => hk.2) (.bool ((rd_T106 l0 x9_1).f1))) (fun _ hk => hk.2) (.string ((rd_T106 l0 x9_1).f2))) (fun _ hk => hk.2) (.string ((rd_T106 l0 x9_1).f3))) (fun _ hk => hk.2) (.string ((rd_T106 l0 x9_1).f4))) (fun _ hk => hk.2) (.string ((rd_T106 l0 x9_1).f5))) (fun _ hk => hk.2) (.bool ((rd_T106 l0 x9_1).f6))) (fun _ h_ => h_.1))) hb); have n1_ := Aside0.mk (blk_below (g := gb115) (o := .cells #[.string ((rd_T106 l0 x9_1).f0.f0), .string ((rd_T106 l0 x9_1).f0.f1), .string ((rd_T106 l0 x9_1).f0.f2), .bool ((rd_T106 l0 x9_1).f1), .string ((rd_T106 l0 x9_1).f2), .string ((rd_T106 l0 x9_1).f3), .string ((rd_T106 l0 x9_1).f4), .string ((rd_T106 l0 x9_1).f5), .bool ((rd_T106 l0 x9_1).f6)] 106 (0, 0)) (by (with_reducible repeat (first | refine blk_drewN ?_ _ | refine blk_drew ?_ | refine blk_alloc ?_ _)); refine blk_put (cs := #[.string ((rd_T106 l0 x9_1).f0.f0), .string ((rd_T106 l0 x9_1).f0.f1), .string ((rd_T106 l0 x9_1).f0.f2), .bool ((rd_T106 l0 x9_1).f1), .string ((rd_T106 l0 x9_1).f2), .string ((rd_T106 l0 x9_1).f3), .string ((rd_T106 l0 x9_1).f4), .string ((rd_T106 l0 x9_1).f5), .bool false]) ?_ 8 _ rfl; (with_reducible repeat (first | refine blk_drewN ?_ _ | refine blk_drew ?_ | refine blk_alloc ?_ _)); refine blk_put (cs := #[.string ((rd_T106 l0 x9_1).f0.f0), .string ((rd_T106 l0 x9_1).f0.f1), .string ((rd_T106 l0 x9_1).f0.f2), .bool ((rd_T106 l0 x9_1).f1), .string ((rd_T106 l0 x9_1).f2), .string ((rd_T106 l0 x9_1).f3), .string ((rd_T106 l0 x9_1).f4), .string (⟨#[]⟩ : ByteArray), .bool false]) ?_ 7 _ rfl; (with_reducible repeat (first | refine blk_drewN ?_ _ | refine blk_drew ?_ | refine blk_alloc ?_ _)); refine blk_put (cs := #[.string ((rd_T106 l0 x9_1).f0.f0), .string ((rd_T106 l0 x9_1).f0.f1), .string ((rd_T106 l0 x9_1).f0.f2), .bool ((rd_T106 l0 x9_1).f1), .string ((rd_T106 l0 x9_1).f2), .string ((rd_T106 l0 x9_1).f3), .string (⟨#[]⟩ : ByteArray), .string (⟨#[]⟩ : ByteArray), .bool false]) ?_ 6 _ rfl; (with_reducible repeat (first | refine blk_drewN ?_ _ | refine blk_drew ?_ | refine blk_alloc ?_ _)); refine blk_put (cs := #[.string ((rd_T106 l0 x9_1).f0.f0), .string ((rd_T106 l0 x9_1).f0.f1), .string ((rd_T106 l0 x9_1).f0.f2), .bool ((rd_T106 l0 x9_1).f1), .string ((rd_T106 l0 x9_1).f2), .string (⟨#[]⟩ : ByteArray), .string (⟨#[]⟩ : ByteArray), .string (⟨#[]⟩ : ByteArray), .bool false]) ?_ 5 _ rfl; (with_reducible repeat (first | refine blk_drewN ?_ _ | refine blk_drew ?_ | refine blk_alloc ?_ _)); refine blk_put (cs := #[.string ((rd_T106 l0 x9_1).f0.f0), .string ((rd_T106 l0 x9_1).f0.f1), .string ((rd_T106 l0 x9_1).f0.f2), .bool ((rd_T106 l0 x9_1).f1), .string (⟨#[]⟩ : ByteArray), .string (⟨#[]⟩ : ByteArray), .string (⟨#[]⟩ : ByteArray), .string (⟨#[]⟩ : ByteArray), .bool false]) ?_ 4 _ rfl; (with_reducible repeat (first | refine blk_drewN ?_ _ | refine blk_drew ?_ | refine blk_alloc ?_ _)); refine blk_put (cs := #[.string ((rd_T106 l0 x9_1).f0.f0), .string ((rd_T106 l0 x9_1).f0.f1), .string ((rd_T106 l0 x9_1).f0.f2), .bool false, .string (⟨#[]⟩ : ByteArray), .string (⟨#[]⟩ : ByteArray), .string (⟨#[]⟩ : ByteArray), .string (⟨#[]⟩ : ByteArray), .bool false]) ?_ 3 _ rfl; (with_reducible repeat (first | refine blk_drewN ?_ _ | refine blk_drew ?_ | refine blk_alloc ?_ _)); refine blk_put (cs := #[.string ((rd_T106 l0 x9_1).f0.f0), .string ((rd_T106 l0 x9_1).f0.f1), .string (⟨#[]⟩ : ByteArray), .bool false, .string (⟨#[]⟩ : ByteArray), .string (⟨#[]⟩ : ByteArray), .string (⟨#[]⟩ : ByteArray), .string (⟨#[]⟩ : ByteArray), .bool false]) ?_ 2 _ rfl; (with_reducible repeat (first | refine blk_drewN ?_ _ | refine blk_drew ?_ | refine blk_alloc ?_ _)); refine blk_put (cs := #[.string ((rd_T106 l0 x9_1).f0.f0), .string (⟨#[]⟩ : ByteArray), .string (⟨#[]⟩ : ByteArray), .bool false, .string (⟨#[]⟩ : ByteArray), .string (⟨#[]⟩ : ByteArray), .string (⟨#[]⟩ : ByteArray), .string (⟨#[]⟩ : ByteArray), .bool false]) ?_ 1 _ rfl; (with_reducible repeat (first | refine blk_drewN ?_ _ | refine blk_drew ?_ | refine blk_alloc ?_ _)); refine blk_put (cs := #[.string (⟨#[]⟩ : ByteArray), .string (⟨#[]⟩ : ByteArray), .string (⟨#[]⟩ : ByteArray), .bool false, .string (⟨#[]⟩ : ByteArray), .string (⟨#[]⟩ : ByteArray), .string (⟨#[]⟩ : ByteArray), .string (⟨#[]⟩ : ByteArray), .bool false]) ?_ 0 _ rfl; (with_reducible repeat (first | refine blk_drewN ?_ _ | refine blk_drew ?_ | refine blk_alloc ?_ _)); exact BK115.out) hb); have n2_ := Aside0.mk (below_step (by repeat (first | (with_reducible first | exact HB.out | apply below_alloc | apply pw_below_drewN | apply below_drew1 | refine below_set ?_ GE115.out) | exact HB.out)) hb); clear HO_3; clear BK115; clear HB; have HO_3 := n0_; have BK115 := n1_; have HB := n2_; clear n0_ n1_ n2_; (try clear hb); (try clear hb2); (try clear hk); (try clear hi); have hcz39_0 : w38.cell? ⟨gb115, 0, none⟩ = some (.string ((rd_T106 l0 x9_1).f0.f0)) := (blk_cell BK115.out 0).trans rfl; have hcz39_1 : w38.cell? ⟨gb115, 1, none⟩ = some (.string ((rd_T106 l0 x9_1).f0.f1)) := (blk_cell BK115.out 1).trans rfl; have hcz39_2 : w38.cell? ⟨gb115, 2, none⟩ = some (.string ((rd_T106 l0 x9_1).f0.f2)) := (blk_cell BK115.out 2).trans rfl; have hcz39_3 : w38.cell? ⟨gb115, 3, none⟩ = some (.bool ((rd_T106 l0 x9_1).f1)) := (blk_cell BK115.out 3).trans rfl; have hcz39_4 : w38.cell? ⟨gb115, 4, none⟩ = some (.string ((rd_T106 l0 x9_1).f2)) := (blk_cell BK115.out 4).trans rfl; have hcz39_5 : w38.cell? ⟨gb115, 5, none⟩ = some (.string ((rd_T106 l0 x9_1).f3)) := (blk_cell BK115.out 5).trans rfl; have hcz39_6 : w38.cell? ⟨gb115, 6, none⟩ = some (.string ((rd_T106 l0 x9_1).f4)) := (blk_cell BK115.out 6).trans rfl; have hcz39_7 : w38.cell? ⟨gb115, 7, none⟩ = some (.string ((rd_T106 l0 x9_1).f5)) := (blk_cell BK115.out 7).trans rfl; have hcz39_8 : w38.cell? ⟨gb115, 8, none⟩ = some (.bool ((rd_T106 l0 x9_1).f6)) := (blk_cell BK115.out 8).trans rfl; have hfz39_0 := blk_frozen BK115.out 0; have hfz39_1 := blk_frozen BK115.out 1; have hfz39_2 := blk_frozen BK115.out 2; have hfz39_3 := blk_frozen BK115.out 3; have hfz39_4 := blk_frozen BK115.out 4; have hfz39_5 := blk_frozen BK115.out 5; have hfz39_6 := blk_frozen BK115.out 6; have hfz39_7 := blk_frozen BK115.out 7; have hfz39_8 := blk_frozen BK115.out 8) | ((with_reducible refine gate_builtin (b := .append) (xs := #[.tmp 15, .tmp 17]) rfl ?_); at_builtin; refine Kd.R_append k106 (w0 := w) w.heap.size rfl (.tmp 15) (.tmp 17) 29 106 (.agg #[(.string ⟨#[]⟩), (.string ⟨#[]⟩), (.string ⟨#[]⟩), (.bool false), (.string ⟨#[]⟩), (.string ⟨#[]⟩), (.string ⟨#[]⟩), (.string ⟨#[]⟩), (.bool false)]) 128 rfl Try.underlying29 info106 rfl (by decide) (by omega) (.slice Ao37 x3_1.length co37) x3_1 (⟨(⟨(rd_T106 l0 x9_1).f0.f0, (rd_T106 l0 x9_1).f0.f1, (rd_T106 l0 x9_1).f0.f2⟩ : S84), (rd_T106 l0 x9_1).f1, (rd_T106 l0 x9_1).f2, (rd_T106 l0 x9_1).f3, (rd_T106 l0 x9_1).f4, (rd_T106 l0 x9_1).f5, (rd_T106 l0 x9_1).f6⟩ : S106) [.string ((rd_T106 l0 x9_1).f0.f0), .string ((rd_T106 l0 x9_1).f0.f1), .string ((rd_T106 l0 x9_1).f0.f2), .bool ((rd_T106 l0 x9_1).f1), .string ((rd_T106 l0 x9_1).f2), .string ((rd_T106 l0 x9_1).f3), .string ((rd_T106 l0 x9_1).f4), .string ((rd_T106 l0 x9_1).f5), .bool ((rd_T106 l0 x9_1).f6)] (fun k_ => k_ ≠ gb115) (fun _ => False) rfl rfl ?aP (fun _ hk => hk.elim) ?aF ?aO ?aB ?aS ?aL ?_; (case aP => exact k106_mkM _ _ _ (⟨(⟨(rd_T106 l0 x9_1).f0.f0, (rd_T106 l0 x9_1).f0.f1, (rd_T106 l0 x9_1).f0.f2⟩ : S84), (rd_T106 l0 x9_1).f1, (rd_T106 l0 x9_1).f2, (rd_T106 l0 x9_1).f3, (rd_T106 l0 x9_1).f4, (rd_T106 l0 x9_1).f5, (rd_T106 l0 x9_1).f6⟩ : S106)); (case aB => exact (by repeat (first | (with_reducible first | exact HB.out | apply below_alloc | apply pw_below_drewN | apply below_drew1 | refine below_set ?_ GE115.out) | exact HB.out))); (case aF => exact (fun k_ hk => Kd.freshB (g := gb115) (o := .cells #[.string ((rd_T106 l0 x9_1).f0.f0), .string ((rd_T106 l0 x9_1).f0.f1), .string ((rd_T106 l0 x9_1).f0.f2), .bool ((rd_T106 l0 x9_1).f1), .string ((rd_T106 l0 x9_1).f2), .string ((rd_T106 l0 x9_1).f3), .string ((rd_T106 l0 x9_1).f4), .string ((rd_T106 l0 x9_1).f5), .bool ((rd_T106 l0 x9_1).f6)] 106 (0, 0)) (by (with_reducible repeat (first | refine blk_drewN ?_ _ | refine blk_drew ?_ | refine blk_alloc ?_ _)); exact BK115.out) k_ hk)); (case aO => exact (by (with_reducible repeat (first | apply Kd.R_alloc | apply Kd.R_drewN | apply Kd.R_drew)); exact Kd.R_mono HO_3.out (fun _ hk => hk.2))); (case aS => exact (below_size (by repeat (first | (with_reducible first | exact HB.out | apply below_alloc | apply pw_below_drewN | apply below_drew1 | refine below_set ?_ GE115.out) | exact HB.out)))); (case aL => have := LMc34.out; omega); intro v125 w40 ho hb hg hat; rw [← Ny124.out] at ho; have n0_ := Aside0.mk (blk_grown (g := gb115) (o := .cells #[.string ((rd_T106 l0 x9_1).f0.f0), .string ((rd_T106 l0 x9_1).f0.f1), .string ((rd_T106 l0 x9_1).f0.f2), .bool ((rd_T106 l0 x9_1).f1), .string ((rd_T106 l0 x9_1).f2), .string ((rd_T106 l0 x9_1).f3), .string ((rd_T106 l0 x9_1).f4), .string ((rd_T106 l0 x9_1).f5), .bool ((rd_T106 l0 x9_1).f6)] 106 (0, 0)) (by (with_reducible repeat (first | refine blk_drewN ?_ _ | refine blk_drew ?_ | refine blk_alloc ?_ _)); exact BK115.out) hg (Kd.R_away HO_3.out (fun _ hk => hk.2))); have n1_ := Aside0.mk (hb); have n2_ := Aside0.mk (ho); clear BK115; clear HB; clear HO_3; have BK115 := n0_; have HB := n1_; have HO126 := n2_; clear n0_ n1_ n2_; clear ho hb hg hat))
                    go_roundg k1
                    case measure => have := HK1.out; omega
                    case rel => exact ⟨(y124), (wrap64 (x9_1 + 1)), (by first | rfl | (simp; done) | (simp [*]; done)), H', ⟨by have := HK1.out; omega⟩, ⟨by (with_reducible repeat (first | apply Kd.R_alloc | apply Kd.R_drewN | apply Kd.R_drew)); exact Kd.R_mono HO126.out (fun _ hk => trivial)⟩, ⟨by repeat (first | (with_reducible first | exact HB.out | apply below_alloc | apply pw_below_drewN | apply below_drew1 | refine below_set ?_ GE115.out) | exact HB.out)⟩⟩
                  · rw [if_neg c34] at H
                    exact absurd H (by simp)
              · replace c10 := Bool.eq_false_iff.mpr c10
                subst c10
                have H1 : (if x3_1.length < 1099511627776 then (doc_Of.l0 k1 (x3_1 ++ [(⟨(⟨(rd_T106 l0 x9_1).f0.f0, (rd_T106 l0 x9_1).f0.f1, (rd_T106 l0 x9_1).f0.f2⟩ : S84), (rd_T106 l0 x9_1).f1, (rd_T106 l0 x9_1).f2, (rd_T106 l0 x9_1).f3, (rd_T106 l0 x9_1).f4, (rd_T106 l0 x9_1).f5, (rd_T106 l0 x9_1).f6⟩ : S106)]) l0 (l0.length : Int) (wrap64 (x9_1 + 1))) else (none)) = some r := by rw [if_neg (show ¬ (false = true) by decide)] at H; exact H
                clear H
                have H := H1
                clear H1
                by_cases c41 : x3_1.length < 1099511627776
                · rw [if_pos c41] at H
                  have LMc41 := Aside0.mk c41
                  clear c41
                  obtain ⟨y127, hy127⟩ : ∃ y_ : List (S106), y_ = (x3_1 ++ [(⟨(⟨(rd_T106 l0 x9_1).f0.f0, (rd_T106 l0 x9_1).f0.f1, (rd_T106 l0 x9_1).f0.f2⟩ : S84), (rd_T106 l0 x9_1).f1, (rd_T106 l0 x9_1).f2, (rd_T106 l0 x9_1).f3, (rd_T106 l0 x9_1).f4, (rd_T106 l0 x9_1).f5, (rd_T106 l0 x9_1).f6⟩ : S106)]) := ⟨_, rfl⟩
                  replace H : (doc_Of.l0 k1 y127 l0 (l0.length : Int) (wrap64 (x9_1 + 1))) = some r := by first | (rw [hy127]; with_reducible exact H) | (have H2_ := (Option.bind_some _ _).symm.trans H; rw [hy127]; with_reducible exact H2_) | (have H2_ := (Option.bind_some _ _).symm.trans H; with_reducible exact H2_) | with_reducible exact H | (rw [hy127]; exact H) | exact H
                  have Ny127 := Aside0.mk hy127
                  clear hy127
                  have H' := Aside0.mk H
                  clear H
                  have p114 : 0 ≤ (x9_1 : Int) := of_decide_eq_true (by first | (with_reducible assumption) | assumption)
                  have q114 : x9_1 < (l0.length : Int) := of_decide_eq_true (by first | (with_reducible assumption) | assumption)
                  obtain ⟨ad114, e114, hx114_0, hx114_1, hx114_2, hx114_3, hx114_4, hx114_5, hx114_6, hx114_7, hx114_8⟩ := at_T106 HR0.out x9_1 p114 q114
                  cases e114
                  replace hx114_0 := (HB.out.cell (World.block_lt_of_cell? w _ hx114_0)).trans hx114_0
                  replace hx114_1 := (HB.out.cell (World.block_lt_of_cell? w _ hx114_1)).trans hx114_1
                  replace hx114_2 := (HB.out.cell (World.block_lt_of_cell? w _ hx114_2)).trans hx114_2
                  replace hx114_3 := (HB.out.cell (World.block_lt_of_cell? w _ hx114_3)).trans hx114_3
                  replace hx114_4 := (HB.out.cell (World.block_lt_of_cell? w _ hx114_4)).trans hx114_4
                  replace hx114_5 := (HB.out.cell (World.block_lt_of_cell? w _ hx114_5)).trans hx114_5
                  replace hx114_6 := (HB.out.cell (World.block_lt_of_cell? w _ hx114_6)).trans hx114_6
                  replace hx114_7 := (HB.out.cell (World.block_lt_of_cell? w _ hx114_7)).trans hx114_7
                  replace hx114_8 := (HB.out.cell (World.block_lt_of_cell? w _ hx114_8)).trans hx114_8
                  replace p114 := eq_true p114
                  replace q114 := eq_true q114
                  go_wp2_with (first | ((with_reducible refine gate_dst (N := 5) rfl ?_); refine box_event ?hg (N := 5) ?hd (cs := #[.string (⟨#[]⟩ : ByteArray), .string (⟨#[]⟩ : ByteArray), .string (⟨#[]⟩ : ByteArray), .bool false, .string (⟨#[]⟩ : ByteArray), .string (⟨#[]⟩ : ByteArray), .string (⟨#[]⟩ : ByteArray), .string (⟨#[]⟩ : ByteArray), .bool false]) (t := 106) ?hr ?_; (case hd => rfl); (case hg => rfl); (case hr => first | (go_simp; done) | (go_simp; rfl)); intro gb115 hg w42 hbox hb; have n0_ := Aside0.mk (Kd.R_below (Kd.R_elderB (by (with_reducible repeat (first | apply Kd.R_alloc | apply Kd.R_drewN | apply Kd.R_drew)); exact HO_3.out) gb115 (Nat.le_of_eq hg.symm)) hb); have n1_ := Aside0.mk (below_step (by repeat (first | (with_reducible first | exact HB.out | apply below_alloc | apply pw_below_drewN | apply below_drew1) | exact HB.out)) hb); have n2_ := Aside0.mk (hbox); have n3_ := Aside0.mk ((by rw [hg]; exact (below_size (by repeat (first | (with_reducible first | exact HB.out | apply below_alloc | apply pw_below_drewN | apply below_drew1) | exact HB.out))) : w.heap.size ≤ gb115)); have n4_ := Aside0.mk ((by rw [hg]; exact (below_size (by repeat (first | (with_reducible first | exact HB.out | apply below_alloc | apply pw_below_drewN | apply below_drew1) | exact HB.out))) : w.heap.size ≤ gb115)); clear HO_3; clear HB; have HO_3 := n0_; have HB := n1_; have BK115 := n2_; have GW115 := n3_; have GE115 := n4_; clear n0_ n1_ n2_ n3_ n4_; clear hb hbox hg; have hcz43_0 : w42.cell? ⟨gb115, 0, none⟩ = some (.string (⟨#[]⟩ : ByteArray)) := (blk_cell BK115.out 0).trans rfl; have hcz43_1 : w42.cell? ⟨gb115, 1, none⟩ = some (.string (⟨#[]⟩ : ByteArray)) := (blk_cell BK115.out 1).trans rfl; have hcz43_2 : w42.cell? ⟨gb115, 2, none⟩ = some (.string (⟨#[]⟩ : ByteArray)) := (blk_cell BK115.out 2).trans rfl; have hcz43_3 : w42.cell? ⟨gb115, 3, none⟩ = some (.bool false) := (blk_cell BK115.out 3).trans rfl; have hcz43_4 : w42.cell? ⟨gb115, 4, none⟩ = some (.string (⟨#[]⟩ : ByteArray)) := (blk_cell BK115.out 4).trans rfl; have hcz43_5 : w42.cell? ⟨gb115, 5, none⟩ = some (.string (⟨#[]⟩ : ByteArray)) := (blk_cell BK115.out 5).trans rfl; have hcz43_6 : w42.cell? ⟨gb115, 6, none⟩ = some (.string (⟨#[]⟩ : ByteArray)) := (blk_cell BK115.out 6).trans rfl; have hcz43_7 : w42.cell? ⟨gb115, 7, none⟩ = some (.string (⟨#[]⟩ : ByteArray)) := (blk_cell BK115.out 7).trans rfl; have hcz43_8 : w42.cell? ⟨gb115, 8, none⟩ = some (.bool false) := (blk_cell BK115.out 8).trans rfl; have hfz43_0 := blk_frozen BK115.out 0; have hfz43_1 := blk_frozen BK115.out 1; have hfz43_2 := blk_frozen BK115.out 2; have hfz43_3 := blk_frozen BK115.out 3; have hfz43_4 := blk_frozen BK115.out 4; have hfz43_5 := blk_frozen BK115.out 5; have hfz43_6 := blk_frozen BK115.out 6; have hfz43_7 := blk_frozen BK115.out 7; have hfz43_8 := blk_frozen BK115.out 8; obtain ⟨Ao44, co44, eo44⟩ := Kd.R_slice HO_3.out; subst eo44) | ((with_reducible refine gate_callee (f := 75) rfl ?_); refine goesL_ (some 25) rfl rfl Try.func75 (by kernel_rfl) rfl #[.agg #[.string ((rd_T106 l0 x9_1).f0.f0), .string ((rd_T106 l0 x9_1).f0.f1), .string ((rd_T106 l0 x9_1).f0.f2), .bool ((rd_T106 l0 x9_1).f1), .string ((rd_T106 l0 x9_1).f2), .string ((rd_T106 l0 x9_1).f3), .string ((rd_T106 l0 x9_1).f4), .string ((rd_T106 l0 x9_1).f5), .bool ((rd_T106 l0 x9_1).f6)]] rfl (by (try simp only [List.map_toArray, List.map_cons, List.map_nil]); first | done | rfl | (simp only [List.length_drop, List.length_take]; rfl)) ?_; (with_reducible refine (doc_Part_isText.calls ((rd_T106 l0 x9_1).f0.f0) ((rd_T106 l0 x9_1).f0.f1) ((rd_T106 l0 x9_1).f0.f2) ((rd_T106 l0 x9_1).f1) ((rd_T106 l0 x9_1).f2) ((rd_T106 l0 x9_1).f3) ((rd_T106 l0 x9_1).f4) ((rd_T106 l0 x9_1).f5) ((rd_T106 l0 x9_1).f6) false _ A9.out).mono ?_); rintro e w45 ⟨rfl, hb⟩; refine ⟨_, rfl, ?_⟩; have n0_ := Aside0.mk (Kd.R_below (by (with_reducible repeat (first | apply Kd.R_alloc | apply Kd.R_drewN | apply Kd.R_drew)); exact (Kd.R_mono (Kd.R_far (p := ⟨gb115, 8, none⟩) (Kd.R_far (p := ⟨gb115, 7, none⟩) (Kd.R_far (p := ⟨gb115, 6, none⟩) (Kd.R_far (p := ⟨gb115, 5, none⟩) (Kd.R_far (p := ⟨gb115, 4, none⟩) (Kd.R_far (p := ⟨gb115, 3, none⟩) (Kd.R_far (p := ⟨gb115, 2, none⟩) (Kd.R_far (p := ⟨gb115, 1, none⟩) (Kd.R_far (p := ⟨gb115, 0, none⟩) (Kd.R_mono HO_3.out (fun k_ hk => (⟨hk, hk.2⟩ : _ ∧ k_ ≠ gb115))) (fun _ hk => hk.2) (.string ((rd_T106 l0 x9_1).f0.f0))) (fun _ hk => hk.2) (.string ((rd_T106 l0 x9_1).f0.f1))) (fun _ hk => hk.2) (.string ((rd_T106 l0 x9_1).f0.f2))) (fun _ hk => hk.2) (.bool ((rd_T106 l0 x9_1).f1))) (fun _ hk => hk.2) (.string ((rd_T106 l0 x9_1).f2))) (fun _ hk => hk.2) (.string ((rd_T106 l0 x9_1).f3))) (fun _ hk => hk.2) (.string ((rd_T106 l0 x9_1).f4))) (fun _ hk => hk.2) (.string ((rd_T106 l0 x9_1).f5))) (fun _ hk => hk.2) (.bool ((rd_T106 l0 x9_1).f6))) (fun _ h_ => h_.1))) hb); have n1_ := Aside0.mk (blk_below (g := gb115) (o := .cells #[.string ((rd_T106 l0 x9_1).f0.f0), .string ((rd_T106 l0 x9_1).f0.f1), .string ((rd_T106 l0 x9_1).f0.f2), .bool ((rd_T106 l0 x9_1).f1), .string ((rd_T106 l0 x9_1).f2), .string ((rd_T106 l0 x9_1).f3), .string ((rd_T106 l0 x9_1).f4), .string ((rd_T106 l0 x9_1).f5), .bool ((rd_T106 l0 x9_1).f6)] 106 (0, 0)) (by (with_reducible repeat (first | refine blk_drewN ?_ _ | refine blk_drew ?_ | refine blk_alloc ?_ _)); refine blk_put (cs := #[.string ((rd_T106 l0 x9_1).f0.f0), .string ((rd_T106 l0 x9_1).f0.f1), .string ((rd_T106 l0 x9_1).f0.f2), .bool ((rd_T106 l0 x9_1).f1), .string ((rd_T106 l0 x9_1).f2), .string ((rd_T106 l0 x9_1).f3), .string ((rd_T106 l0 x9_1).f4), .string ((rd_T106 l0 x9_1).f5), .bool false]) ?_ 8 _ rfl; (with_reducible repeat (first | refine blk_drewN ?_ _ | refine blk_drew ?_ | refine blk_alloc ?_ _)); refine blk_put (cs := #[.string ((rd_T106 l0 x9_1).f0.f0), .string ((rd_T106 l0 x9_1).f0.f1), .string ((rd_T106 l0 x9_1).f0.f2), .bool ((rd_T106 l0 x9_1).f1), .string ((rd_T106 l0 x9_1).f2), .string ((rd_T106 l0 x9_1).f3), .string ((rd_T106 l0 x9_1).f4), .string (⟨#[]⟩ : ByteArray), .bool false]) ?_ 7 _ rfl; (with_reducible repeat (first | refine blk_drewN ?_ _ | refine blk_drew ?_ | refine blk_alloc ?_ _)); refine blk_put (cs := #[.string ((rd_T106 l0 x9_1).f0.f0), .string ((rd_T106 l0 x9_1).f0.f1), .string ((rd_T106 l0 x9_1).f0.f2), .bool ((rd_T106 l0 x9_1).f1), .string ((rd_T106 l0 x9_1).f2), .string ((rd_T106 l0 x9_1).f3), .string (⟨#[]⟩ : ByteArray), .string (⟨#[]⟩ : ByteArray), .bool false]) ?_ 6 _ rfl; (with_reducible repeat (first | refine blk_drewN ?_ _ | refine blk_drew ?_ | refine blk_alloc ?_ _)); refine blk_put (cs := #[.string ((rd_T106 l0 x9_1).f0.f0), .string ((rd_T106 l0 x9_1).f0.f1), .string ((rd_T106 l0 x9_1).f0.f2), .bool ((rd_T106 l0 x9_1).f1), .string ((rd_T106 l0 x9_1).f2), .string (⟨#[]⟩ : ByteArray), .string (⟨#[]⟩ : ByteArray), .string (⟨#[]⟩ : ByteArray), .bool false]) ?_ 5 _ rfl; (with_reducible repeat (first | refine blk_drewN ?_ _ | refine blk_drew ?_ | refine blk_alloc ?_ _)); refine blk_put (cs := #[.string ((rd_T106 l0 x9_1).f0.f0), .string ((rd_T106 l0 x9_1).f0.f1), .string ((rd_T106 l0 x9_1).f0.f2), .bool ((rd_T106 l0 x9_1).f1), .string (⟨#[]⟩ : ByteArray), .string (⟨#[]⟩ : ByteArray), .string (⟨#[]⟩ : ByteArray), .string (⟨#[]⟩ : ByteArray), .bool false]) ?_ 4 _ rfl; (with_reducible repeat (first | refine blk_drewN ?_ _ | refine blk_drew ?_ | refine blk_alloc ?_ _)); refine blk_put (cs := #[.string ((rd_T106 l0 x9_1).f0.f0), .string ((rd_T106 l0 x9_1).f0.f1), .string ((rd_T106 l0 x9_1).f0.f2), .bool false, .string (⟨#[]⟩ : ByteArray), .string (⟨#[]⟩ : ByteArray), .string (⟨#[]⟩ : ByteArray), .string (⟨#[]⟩ : ByteArray), .bool false]) ?_ 3 _ rfl; (with_reducible repeat (first | refine blk_drewN ?_ _ | refine blk_drew ?_ | refine blk_alloc ?_ _)); refine blk_put (cs := #[.string ((rd_T106 l0 x9_1).f0.f0), .string ((rd_T106 l0 x9_1).f0.f1), .string (⟨#[]⟩ : ByteArray), .bool false, .string (⟨#[]⟩ : ByteArray), .string (⟨#[]⟩ : ByteArray), .string (⟨#[]⟩ : ByteArray), .string (⟨#[]⟩ : ByteArray), .bool false]) ?_ 2 _ rfl; (with_reducible repeat (first | refine blk_drewN ?_ _ | refine blk_drew ?_ | refine blk_alloc ?_ _)); refine blk_put (cs := #[.string ((rd_T106 l0 x9_1).f0.f0), .string (⟨#[]⟩ : ByteArray), .string (⟨#[]⟩ : ByteArray), .bool false, .string (⟨#[]⟩ : ByteArray), .string (⟨#[]⟩ : ByteArray), .string (⟨#[]⟩ : ByteArray), .string (⟨#[]⟩ : ByteArray), .bool false]) ?_ 1 _ rfl; (with_reducible repeat (first | refine blk_drewN ?_ _ | refine blk_drew ?_ | refine blk_alloc ?_ _)); refine blk_put (cs := #[.string (⟨#[]⟩ : ByteArray), .string (⟨#[]⟩ : ByteArray), .string (⟨#[]⟩ : ByteArray), .bool false, .string (⟨#[]⟩ : ByteArray), .string (⟨#[]⟩ : ByteArray), .string (⟨#[]⟩ : ByteArray), .string (⟨#[]⟩ : ByteArray), .bool false]) ?_ 0 _ rfl; (with_reducible repeat (first | refine blk_drewN ?_ _ | refine blk_drew ?_ | refine blk_alloc ?_ _)); exact BK115.out) hb); have n2_ := Aside0.mk (below_step (by repeat (first | (with_reducible first | exact HB.out | apply below_alloc | apply pw_below_drewN | apply below_drew1 | refine below_set ?_ GE115.out) | exact HB.out)) hb); clear HO_3; clear BK115; clear HB; have HO_3 := n0_; have BK115 := n1_; have HB := n2_; clear n0_ n1_ n2_; (try clear hb); (try clear hb2); (try clear hk); (try clear hi); have hcz46_0 : w45.cell? ⟨gb115, 0, none⟩ = some (.string ((rd_T106 l0 x9_1).f0.f0)) := (blk_cell BK115.out 0).trans rfl; have hcz46_1 : w45.cell? ⟨gb115, 1, none⟩ = some (.string ((rd_T106 l0 x9_1).f0.f1)) := (blk_cell BK115.out 1).trans rfl; have hcz46_2 : w45.cell? ⟨gb115, 2, none⟩ = some (.string ((rd_T106 l0 x9_1).f0.f2)) := (blk_cell BK115.out 2).trans rfl; have hcz46_3 : w45.cell? ⟨gb115, 3, none⟩ = some (.bool ((rd_T106 l0 x9_1).f1)) := (blk_cell BK115.out 3).trans rfl; have hcz46_4 : w45.cell? ⟨gb115, 4, none⟩ = some (.string ((rd_T106 l0 x9_1).f2)) := (blk_cell BK115.out 4).trans rfl; have hcz46_5 : w45.cell? ⟨gb115, 5, none⟩ = some (.string ((rd_T106 l0 x9_1).f3)) := (blk_cell BK115.out 5).trans rfl; have hcz46_6 : w45.cell? ⟨gb115, 6, none⟩ = some (.string ((rd_T106 l0 x9_1).f4)) := (blk_cell BK115.out 6).trans rfl; have hcz46_7 : w45.cell? ⟨gb115, 7, none⟩ = some (.string ((rd_T106 l0 x9_1).f5)) := (blk_cell BK115.out 7).trans rfl; have hcz46_8 : w45.cell? ⟨gb115, 8, none⟩ = some (.bool ((rd_T106 l0 x9_1).f6)) := (blk_cell BK115.out 8).trans rfl; have hfz46_0 := blk_frozen BK115.out 0; have hfz46_1 := blk_frozen BK115.out 1; have hfz46_2 := blk_frozen BK115.out 2; have hfz46_3 := blk_frozen BK115.out 3; have hfz46_4 := blk_frozen BK115.out 4; have hfz46_5 := blk_frozen BK115.out 5; have hfz46_6 := blk_frozen BK115.out 6; have hfz46_7 := blk_frozen BK115.out 7; have hfz46_8 := blk_frozen BK115.out 8) | ((with_reducible refine gate_builtin (b := .append) (xs := #[.tmp 15, .tmp 17]) rfl ?_); at_builtin; refine Kd.R_append k106 (w0 := w) w.heap.size rfl (.tmp 15) (.tmp 17) 29 106 (.agg #[(.string ⟨#[]⟩), (.string ⟨#[]⟩), (.string ⟨#[]⟩), (.bool false), (.string ⟨#[]⟩), (.string ⟨#[]⟩), (.string ⟨#[]⟩), (.string ⟨#[]⟩), (.bool false)]) 128 rfl Try.underlying29 info106 rfl (by decide) (by omega) (.slice Ao44 x3_1.length co44) x3_1 (⟨(⟨(rd_T106 l0 x9_1).f0.f0, (rd_T106 l0 x9_1).f0.f1, (rd_T106 l0 x9_1).f0.f2⟩ : S84), (rd_T106 l0 x9_1).f1, (rd_T106 l0 x9_1).f2, (rd_T106 l0 x9_1).f3, (rd_T106 l0 x9_1).f4, (rd_T106 l0 x9_1).f5, (rd_T106 l0 x9_1).f6⟩ : S106) [.string ((rd_T106 l0 x9_1).f0.f0), .string ((rd_T106 l0 x9_1).f0.f1), .string ((rd_T106 l0 x9_1).f0.f2), .bool ((rd_T106 l0 x9_1).f1), .string ((rd_T106 l0 x9_1).f2), .string ((rd_T106 l0 x9_1).f3), .string ((rd_T106 l0 x9_1).f4), .string ((rd_T106 l0 x9_1).f5), .bool ((rd_T106 l0 x9_1).f6)] (fun k_ => k_ ≠ gb115) (fun _ => False) rfl rfl ?aP (fun _ hk => hk.elim) ?aF ?aO ?aB ?aS ?aL ?_; (case aP => exact k106_mkM _ _ _ (⟨(⟨(rd_T106 l0 x9_1).f0.f0, (rd_T106 l0 x9_1).f0.f1, (rd_T106 l0 x9_1).f0.f2⟩ : S84), (rd_T106 l0 x9_1).f1, (rd_T106 l0 x9_1).f2, (rd_T106 l0 x9_1).f3, (rd_T106 l0 x9_1).f4, (rd_T106 l0 x9_1).f5, (rd_T106 l0 x9_1).f6⟩ : S106)); (case aB => exact (by repeat (first | (with_reducible first | exact HB.out | apply below_alloc | apply pw_below_drewN | apply below_drew1 | refine below_set ?_ GE115.out) | exact HB.out))); (case aF => exact (fun k_ hk => Kd.freshB (g := gb115) (o := .cells #[.string ((rd_T106 l0 x9_1).f0.f0), .string ((rd_T106 l0 x9_1).f0.f1), .string ((rd_T106 l0 x9_1).f0.f2), .bool ((rd_T106 l0 x9_1).f1), .string ((rd_T106 l0 x9_1).f2), .string ((rd_T106 l0 x9_1).f3), .string ((rd_T106 l0 x9_1).f4), .string ((rd_T106 l0 x9_1).f5), .bool ((rd_T106 l0 x9_1).f6)] 106 (0, 0)) (by (with_reducible repeat (first | refine blk_drewN ?_ _ | refine blk_drew ?_ | refine blk_alloc ?_ _)); exact BK115.out) k_ hk)); (case aO => exact (by (with_reducible repeat (first | apply Kd.R_alloc | apply Kd.R_drewN | apply Kd.R_drew)); exact Kd.R_mono HO_3.out (fun _ hk => hk.2))); (case aS => exact (below_size (by repeat (first | (with_reducible first | exact HB.out | apply below_alloc | apply pw_below_drewN | apply below_drew1 | refine below_set ?_ GE115.out) | exact HB.out)))); (case aL => have := LMc41.out; omega); intro v128 w47 ho hb hg hat; rw [← Ny127.out] at ho; have n0_ := Aside0.mk (blk_grown (g := gb115) (o := .cells #[.string ((rd_T106 l0 x9_1).f0.f0), .string ((rd_T106 l0 x9_1).f0.f1), .string ((rd_T106 l0 x9_1).f0.f2), .bool ((rd_T106 l0 x9_1).f1), .string ((rd_T106 l0 x9_1).f2), .string ((rd_T106 l0 x9_1).f3), .string ((rd_T106 l0 x9_1).f4), .string ((rd_T106 l0 x9_1).f5), .bool ((rd_T106 l0 x9_1).f6)] 106 (0, 0)) (by (with_reducible repeat (first | refine blk_drewN ?_ _ | refine blk_drew ?_ | refine blk_alloc ?_ _)); exact BK115.out) hg (Kd.R_away HO_3.out (fun _ hk => hk.2))); have n1_ := Aside0.mk (hb); have n2_ := Aside0.mk (ho); clear BK115; clear HB; clear HO_3; have BK115 := n0_; have HB := n1_; have HO129 := n2_; clear n0_ n1_ n2_; clear ho hb hg hat))
                  go_roundg k1
                  case measure => have := HK1.out; omega
                  case rel => exact ⟨(y127), (wrap64 (x9_1 + 1)), (by first | rfl | (simp; done) | (simp [*]; done)), H', ⟨by have := HK1.out; omega⟩, ⟨by (with_reducible repeat (first | apply Kd.R_alloc | apply Kd.R_drewN | apply Kd.R_drew)); exact Kd.R_mono HO129.out (fun _ hk => trivial)⟩, ⟨by repeat (first | (with_reducible first | exact HB.out | apply below_alloc | apply pw_below_drewN | apply below_drew1 | refine below_set ?_ GE115.out) | exact HB.out)⟩⟩
                · rw [if_neg c41] at H
                  exact absurd H (by simp)
          · rw [if_neg c4] at H
            exact absurd H (by simp)
        · rw [if_neg c3] at H
          exact absurd H (by simp)
      · rw [if_neg c2] at H
        have c2b0 : decide (x9_1 < (l0.length : Int)) = false := decide_eq_false c2
        clear c2
        obtain rfl := Option.some.inj H
        go_wp2
        go_ret
        exact ⟨_, by first | rfl | (simp [errW_none, errW_some] <;> rfl) | (simp [*, errW_none, errW_some] <;> rfl), by (with_reducible repeat (first | apply Kd.R_alloc | apply Kd.R_drewN | apply Kd.R_drew)); exact HO_3.out, by repeat (first | (with_reducible first | exact HB.out | apply below_alloc | apply pw_below_drewN | apply below_drew1) | exact HB.out)⟩
end Go.Proofs.Ytfiamddinkokbaa.F
end

section
set_option linter.unusedVariables false
set_option linter.unusedSimpArgs false
namespace Go.Proofs.Ytfiamddinkokbaa.F
open Go.RowKit Go.Proofs.YtfiamddinkokbaaW.PrintWords Go.Proofs.YtfiamddinkokbaaW.PrintLast Go.Proofs.YtfiamddinkokbaaW.PrintMore
attribute [local go_sem] max2_int min2_int max_two min_two max_three min_three max_four min_four
set_option linter.unusedVariables false
set_option linter.unusedSimpArgs false
def lines_Split.f (a0 : ByteArray) : Option (List ByteArray) := if a0.size ≤ 4000000000 then some (splitB a0) else none
theorem lines_Split.calls (a0 : ByteArray) (r : List ByteArray) (w : World) (h : lines_Split.f a0 = some r) :
    Calls Try.prog 29 #[.string a0] w fun e w' => ∃ v0_ : Value, e = .returned (v0_) ∧ Kd.R Kd.string 9 w' w.heap.size (fun _ => True) v0_ r ∧ Below w.heap.size w w' := by
  exact ext_split a0 r w h
end Go.Proofs.Ytfiamddinkokbaa.F
end

section
set_option linter.unusedVariables false
set_option linter.unusedSimpArgs false
namespace Go.Proofs.Ytfiamddinkokbaa.F
open Go.RowKit Go.Proofs.YtfiamddinkokbaaW.PrintWords Go.Proofs.YtfiamddinkokbaaW.PrintLast Go.Proofs.YtfiamddinkokbaaW.PrintMore
attribute [local go_sem] max2_int min2_int max_two min_two max_three min_three max_four min_four
set_option linter.unusedVariables false
set_option linter.unusedSimpArgs false
def lines_Run.f (a0 : ByteArray) : Option Int := if a0.size ≤ 4000000000 then some ((runL a0.data.toList : Nat) : Int) else none
theorem lines_Run.calls (a0 : ByteArray) (r : Int) (w : World) (h : lines_Run.f a0 = some r) :
    Calls Try.prog 43 #[.string a0] w fun e w' => e = .returned (.int .i64 r) ∧ Below w.heap.size w w' := by
  exact ext_run a0 r w h
end Go.Proofs.Ytfiamddinkokbaa.F
end

section
set_option linter.unusedVariables false
set_option linter.unusedSimpArgs false
namespace Go.Proofs.Ytfiamddinkokbaa.F
open Go.RowKit Go.Proofs.YtfiamddinkokbaaW.PrintWords Go.Proofs.YtfiamddinkokbaaW.PrintLast Go.Proofs.YtfiamddinkokbaaW.PrintMore
attribute [local go_sem] max2_int min2_int max_two min_two max_three min_three max_four min_four
set_option linter.unusedVariables false
set_option linter.unusedSimpArgs false
mutual
def lines_Longest.l0 : Nat → Int → List (List ByteArray) → Int → Int → Option (Int)
  | 0, _, _, _, _ => none
  | k + 1, x3, x8, x9, x10 => if x10 < x9 then (if 0 ≤ x10 then (if x10 < (x8.length : Int) then (lines_Longest.l1 k x3 x8 x9 x10 (rd_L1 x8 x10) ((rd_L1 x8 x10).length : Int) 0) else (none)) else (none)) else (some x3)
def lines_Longest.l1 : Nat → Int → List (List ByteArray) → Int → Int → List ByteArray → Int → Int → Option (Int)
  | 0, _, _, _, _, _, _, _ => none
  | k + 1, x3, x8, x9, x10, x14, x15, x16 => if x16 < x15 then (if 0 ≤ x16 then (if x16 < (x14.length : Int) then ((lines_Run.f (rdOf ByteArray.empty x14 x16)).bind fun t103 => (lines_Longest.l1 k (mx x3 t103) x8 x9 x10 x14 x15 (wrap64 (x16 + 1)))) else (none)) else (none)) else (lines_Longest.l0 k x3 x8 x9 (wrap64 (x10 + 1)))
end
def lines_Longest.f (k : Nat) (l0 : List (List ByteArray)) : Option (Int) := lines_Longest.l0 k 0 l0 (l0.length : Int) 0
theorem lines_Longest.mono_l : ∀ k, (∀ y0 y1 y2 y3, LeO (lines_Longest.l0 k y0 y1 y2 y3) (lines_Longest.l0 (k + 1) y0 y1 y2 y3)) ∧ (∀ y0 y1 y2 y3 y4 y5 y6, LeO (lines_Longest.l1 k y0 y1 y2 y3 y4 y5 y6) (lines_Longest.l1 (k + 1) y0 y1 y2 y3 y4 y5 y6))
  | 0 => ⟨fun _ _ _ _ r h => by simp [lines_Longest.l0] at h, fun _ _ _ _ _ _ _ r h => by simp [lines_Longest.l1] at h⟩
  | k + 1 => by
    obtain ⟨ih0, ih1⟩ := lines_Longest.mono_l k
    refine ⟨?_, ?_⟩
    · intro y0 y1 y2 y3
      unfold lines_Longest.l0
      repeat' first
      | (with_reducible exact ih0 _ _ _ _)
      | (with_reducible exact ih1 _ _ _ _ _ _ _)
      | (with_reducible exact LeO.refl _)
      | (with_reducible exact LeO.none _)
      | (with_reducible refine LeO.ite ?_ ?_)
      | (with_reducible refine LeO.bind ?_ (fun _ => ?_))
      | exact ih0 _ _ _ _
      | exact ih1 _ _ _ _ _ _ _
      | exact LeO.none _
      | refine LeO.ite ?_ ?_
      | refine LeO.bind ?_ (fun _ => ?_)
    · intro y0 y1 y2 y3 y4 y5 y6
      unfold lines_Longest.l1
      repeat' first
      | (with_reducible exact ih0 _ _ _ _)
      | (with_reducible exact ih1 _ _ _ _ _ _ _)
      | (with_reducible exact LeO.refl _)
      | (with_reducible exact LeO.none _)
      | (with_reducible refine LeO.ite ?_ ?_)
      | (with_reducible refine LeO.bind ?_ (fun _ => ?_))
      | exact ih0 _ _ _ _
      | exact ih1 _ _ _ _ _ _ _
      | exact LeO.none _
      | refine LeO.ite ?_ ?_
      | refine LeO.bind ?_ (fun _ => ?_)
theorem lines_Longest.mono : ∀ a0 k, LeO (lines_Longest.f k a0) (lines_Longest.f (k + 1) a0) := by
  intro a0 k
  obtain ⟨ih0, ih1⟩ := lines_Longest.mono_l k
  unfold lines_Longest.f
  repeat' first
      | (with_reducible exact ih0 _ _ _ _)
      | (with_reducible exact ih1 _ _ _ _ _ _ _)
      | (with_reducible exact LeO.refl _)
      | (with_reducible exact LeO.none _)
      | (with_reducible refine LeO.ite ?_ ?_)
      | (with_reducible refine LeO.bind ?_ (fun _ => ?_))
      | exact ih0 _ _ _ _
      | exact ih1 _ _ _ _ _ _ _
      | exact LeO.none _
      | refine LeO.ite ?_ ?_
      | refine LeO.bind ?_ (fun _ => ?_)
set_option maxHeartbeats 8000000 in
set_option maxRecDepth 100000 in
theorem lines_Longest.calls (k : Nat) (A0 : Option Addr) (c0 : Nat) (l0 : List (List ByteArray)) (r : Int) (w : World) (hr0 : Kd.C (Kd.slice 9 Kd.string) w A0 l0.length l0) (hc0 : l0.length ≤ c0) (h : lines_Longest.f k l0 = some r) :
    Calls Try.prog 40 #[.slice A0 l0.length c0] w fun e w' => e = .returned (.int .i64 r) ∧ Below w.heap.size w w' := by
  have HR0 := Aside0.mk hr0
  have HC0 := Aside0.mk hc0
  clear hr0 hc0
  have HB := Aside0.mk (Below.refl w.heap.size w)
  have H : (lines_Longest.l0 k 0 l0 (l0.length : Int) 0) = some r := h
  clear h
  have H' := Aside0.mk H
  clear H
  go_enter Try.func40, Try.ntmps40
  go_wp2
  go_loopg [3, 10] k (fun kq v3 v10 w' => ∃ (x3_1 : Int) (x10_1 : Int), v3 = .int .i64 x3_1 ∧ v10 = .int .i64 x10_1 ∧ Aside0 (lines_Longest.l0 kq x3_1 l0 (l0.length : Int) x10_1 = some r) ∧ Aside0 (kq ≤ k) ∧ Aside0 (Below w.heap.size w w'))
  case atStart => exact ⟨(0), (0), (by first | rfl | (simp; done) | (simp [*]; done)), (by first | rfl | (simp; done) | (simp [*]; done)), H', ⟨Nat.le_refl _⟩, ⟨by repeat (first | (with_reducible first | exact HB.out | apply below_alloc | apply pw_below_drewN | apply below_drew1) | exact HB.out)⟩⟩
  case round =>
    clear H'
    obtain ⟨x3_1, x10_1, rfl, rfl, HA, HK1, HB⟩ := hrel
    cases gk with
    | zero => exact absurd HA.out (by simp [lines_Longest.l0])
    | succ k1 =>
      have H := HA.out
      clear HA
      simp only [lines_Longest.l0] at H
      by_cases c2 : x10_1 < (l0.length : Int)
      · rw [if_pos c2] at H
        have c2b0 : decide (x10_1 < (l0.length : Int)) = true := decide_eq_true c2
        clear c2
        by_cases c3 : 0 ≤ x10_1
        · rw [if_pos c3] at H
          have c3b0 : decide (0 ≤ x10_1) = true := decide_eq_true c3
          clear c3
          by_cases c4 : x10_1 < (l0.length : Int)
          · rw [if_pos c4] at H
            have c4b0 : decide (x10_1 < (l0.length : Int)) = true := decide_eq_true c4
            clear c4
            have H' := Aside0.mk H
            clear H
            have p101 : 0 ≤ (x10_1 : Int) := of_decide_eq_true (by first | (with_reducible assumption) | assumption)
            have q101 : x10_1 < (l0.length : Int) := of_decide_eq_true (by first | (with_reducible assumption) | assumption)
            obtain ⟨ad101, A101_0, c101_0, e101, hx101_0, hl101_0, hi101_0⟩ := at_L1 HR0.out x10_1 p101 q101
            cases e101
            replace hx101_0 := (HB.out.cell (World.block_lt_of_cell? w _ hx101_0)).trans hx101_0
            have HR101_0 := Aside0.mk hi101_0
            have HC101_0 := Aside0.mk hl101_0
            clear hi101_0 hl101_0
            replace p101 := eq_true p101
            replace q101 := eq_true q101
            go_wp2
            go_loopg [3, 16] k1 (fun kq v3 v16 w' => ∃ (x3_2 : Int) (x16_2 : Int), v3 = .int .i64 x3_2 ∧ v16 = .int .i64 x16_2 ∧ Aside0 (lines_Longest.l1 kq x3_2 l0 (l0.length : Int) x10_1 (rd_L1 l0 x10_1) ((rd_L1 l0 x10_1).length : Int) x16_2 = some r) ∧ Aside0 (kq ≤ k1) ∧ Aside0 (Below w.heap.size w w'))
            case atStart => exact ⟨(x3_1), (0), (by first | rfl | (simp; done) | (simp [*]; done)), (by first | rfl | (simp; done) | (simp [*]; done)), H', ⟨Nat.le_refl _⟩, ⟨by repeat (first | (with_reducible first | exact HB.out | apply below_alloc | apply pw_below_drewN | apply below_drew1) | exact HB.out)⟩⟩
            case round =>
              clear H'
              try clear c1
              try clear p1
              try clear q1
              try clear hx1
              try clear c2
              try clear c2b0
              try clear p2
              try clear c3
              try clear c3b0
              try clear c4
              try clear c4b0
              try clear hx101_0
              try clear p101
              try clear q101
              obtain ⟨x3_2, x16_2, rfl, rfl, HA, HK2, HB⟩ := hrel
              cases gk with
              | zero => exact absurd HA.out (by simp [lines_Longest.l1])
              | succ k2 =>
                have H := HA.out
                clear HA
                simp only [lines_Longest.l1] at H
                by_cases c5 : x16_2 < ((rd_L1 l0 x10_1).length : Int)
                · rw [if_pos c5] at H
                  have c5b0 : decide (x16_2 < ((rd_L1 l0 x10_1).length : Int)) = true := decide_eq_true c5
                  clear c5
                  by_cases c6 : 0 ≤ x16_2
                  · rw [if_pos c6] at H
                    have c6b0 : decide (0 ≤ x16_2) = true := decide_eq_true c6
                    clear c6
                    by_cases c7 : x16_2 < ((rd_L1 l0 x10_1).length : Int)
                    · rw [if_pos c7] at H
                      have c7b0 : decide (x16_2 < ((rd_L1 l0 x10_1).length : Int)) = true := decide_eq_true c7
                      clear c7
                      replace H := Option.bind_eq_some_iff.mp H
                      obtain ⟨t103, A80, H⟩ := H
                      replace H : (lines_Longest.l1 k2 (mx x3_2 t103) l0 (l0.length : Int) x10_1 (rd_L1 l0 x10_1) ((rd_L1 l0 x10_1).length : Int) (wrap64 (x16_2 + 1))) = some r := H
                      have A8 := Aside0.mk A80
                      clear A80
                      obtain ⟨ji9, hji9⟩ : ∃ j_ : Int, (mx x3_2 t103) = j_ := ⟨_, rfl⟩
                      replace H : (lines_Longest.l1 k2 ji9 l0 (l0.length : Int) x10_1 (rd_L1 l0 x10_1) ((rd_L1 l0 x10_1).length : Int) (wrap64 (x16_2 + 1))) = some r := by first | (rw [hji9] at H; exact H) | (simp only [hji9] at H ⊢; exact H)
                      (try rw [hji9] at A8)
                      have hji9_ : (if x3_2 < t103 then t103 else x3_2) = ji9 := hji9
                      have H' := Aside0.mk H
                      clear H
                      have p102 : 0 ≤ (x16_2 : Int) := of_decide_eq_true (by first | (with_reducible assumption) | assumption)
                      have q102 : x16_2 < ((rd_L1 l0 x10_1).length : Int) := of_decide_eq_true (by first | (with_reducible assumption) | assumption)
                      obtain ⟨ad102, e102, hx102_0⟩ := Kd.at_string HR101_0.out x16_2 p102 q102
                      cases e102
                      replace hx102_0 := (HB.out.cell (World.block_lt_of_cell? w _ hx102_0)).trans hx102_0
                      replace p102 := eq_true p102
                      replace q102 := eq_true q102
                      go_wp2_with (first | ((with_reducible refine gate_callee (f := 43) rfl ?_); refine goesL_ (some 22) rfl rfl Try.func43 (by kernel_rfl) rfl #[.string (rdOf ByteArray.empty (rd_L1 l0 x10_1) x16_2)] rfl (by (try simp only [List.map_toArray, List.map_cons, List.map_nil]); first | done | rfl | (simp only [List.length_drop, List.length_take]; rfl)) ?_; (with_reducible refine (lines_Run.calls (rdOf ByteArray.empty (rd_L1 l0 x10_1) x16_2) t103 _ A8.out).mono ?_); rintro e w10 ⟨rfl, hb⟩; refine ⟨_, rfl, ?_⟩; have n0_ := Aside0.mk (below_step (by repeat (first | (with_reducible first | exact HB.out | apply below_alloc | apply pw_below_drewN | apply below_drew1) | exact HB.out)) hb); clear HB; have HB := n0_; clear n0_; (try clear hb); (try clear hb2); (try clear hk); (try clear hi)))
                      go_roundg k2
                      case measure => have := HK1.out; have := HK2.out; omega
                      case rel => exact ⟨(ji9), (wrap64 (x16_2 + 1)), (by first | rfl | (simp; done) | (simp only [← hji9] <;> (first | rfl | simp)) | (simp [*]; done)), (by first | rfl | (simp; done) | (simp [*]; done)), H', ⟨by have := HK1.out; have := HK2.out; omega⟩, ⟨by repeat (first | (with_reducible first | exact HB.out | apply below_alloc | apply pw_below_drewN | apply below_drew1) | exact HB.out)⟩⟩
                    · rw [if_neg c7] at H
                      exact absurd H (by simp)
                  · rw [if_neg c6] at H
                    exact absurd H (by simp)
                · rw [if_neg c5] at H
                  have c5b0 : decide (x16_2 < ((rd_L1 l0 x10_1).length : Int)) = false := decide_eq_false c5
                  clear c5
                  have H' := Aside0.mk H
                  clear H
                  go_wp2
                  go_roundg k2
                  case measure => have := HK1.out; have := HK2.out; omega
                  case rel => exact ⟨(x3_2), (wrap64 (x10_1 + 1)), (by first | rfl | (simp; done) | (simp [*]; done)), (by first | rfl | (simp; done) | (simp [*]; done)), H', ⟨by have := HK1.out; have := HK2.out; omega⟩, ⟨by repeat (first | (with_reducible first | exact HB.out | apply below_alloc | apply pw_below_drewN | apply below_drew1) | exact HB.out)⟩⟩
          · rw [if_neg c4] at H
            exact absurd H (by simp)
        · rw [if_neg c3] at H
          exact absurd H (by simp)
      · rw [if_neg c2] at H
        have c2b0 : decide (x10_1 < (l0.length : Int)) = false := decide_eq_false c2
        clear c2
        obtain rfl := Option.some.inj H
        go_wp2
        go_ret
        exact ⟨by first | rfl | (simp [errW_none, errW_some] <;> rfl) | (simp [*, errW_none, errW_some] <;> rfl), by repeat (first | (with_reducible first | exact HB.out | apply below_alloc | apply pw_below_drewN | apply below_drew1) | exact HB.out)⟩
end Go.Proofs.Ytfiamddinkokbaa.F
end

section
set_option linter.unusedVariables false
set_option linter.unusedSimpArgs false
namespace Go.Proofs.Ytfiamddinkokbaa.F
open Go.RowKit Go.Proofs.YtfiamddinkokbaaW.PrintWords Go.Proofs.YtfiamddinkokbaaW.PrintLast Go.Proofs.YtfiamddinkokbaaW.PrintMore
attribute [local go_sem] max2_int min2_int max_two min_two max_three min_three max_four min_four
set_option linter.unusedVariables false
set_option linter.unusedSimpArgs false
def doc_run.l0 : Nat → Int → List ByteArray → Int → Int → Option (Int)
  | 0, _, _, _, _ => none
  | k + 1, x3, x6, x7, x8 => if x8 < x7 then (if 0 ≤ x8 then (if x8 < (x6.length : Int) then ((lines_Split.f (rdOf ByteArray.empty x6 x8)).bind fun t105 => ((lines_Longest.f k (([t105] : List (List ByteArray)))).bind fun t111 => (doc_run.l0 k (mx x3 t111) x6 x7 (wrap64 (x8 + 1))))) else (none)) else (none)) else (some x3)
def doc_run.f (k : Nat) (l0 : List ByteArray) : Option (Int) := doc_run.l0 k 0 l0 (l0.length : Int) 0
theorem doc_run.mono_l : ∀ k, (∀ y0 y1 y2 y3, LeO (doc_run.l0 k y0 y1 y2 y3) (doc_run.l0 (k + 1) y0 y1 y2 y3))
  | 0 => fun _ _ _ _ r h => by simp [doc_run.l0] at h
  | k + 1 => by
    have ih0 := doc_run.mono_l k
    · intro y0 y1 y2 y3
      unfold doc_run.l0
      repeat' first
      | (with_reducible exact ih0 _ _ _ _)
      | (with_reducible exact lines_Longest.mono _ _)
      | (with_reducible exact LeO.refl _)
      | (with_reducible exact LeO.none _)
      | (with_reducible refine LeO.ite ?_ ?_)
      | (with_reducible refine LeO.bind ?_ (fun _ => ?_))
      | exact ih0 _ _ _ _
      | exact lines_Longest.mono _ _
      | exact LeO.none _
      | refine LeO.ite ?_ ?_
      | refine LeO.bind ?_ (fun _ => ?_)
theorem doc_run.mono : ∀ a0 k, LeO (doc_run.f k a0) (doc_run.f (k + 1) a0) := by
  intro a0 k
  have ih0 := doc_run.mono_l k
  unfold doc_run.f
  repeat' first
      | (with_reducible exact ih0 _ _ _ _)
      | (with_reducible exact lines_Longest.mono _ _)
      | (with_reducible exact LeO.refl _)
      | (with_reducible exact LeO.none _)
      | (with_reducible refine LeO.ite ?_ ?_)
      | (with_reducible refine LeO.bind ?_ (fun _ => ?_))
      | exact ih0 _ _ _ _
      | exact lines_Longest.mono _ _
      | exact LeO.none _
      | refine LeO.ite ?_ ?_
      | refine LeO.bind ?_ (fun _ => ?_)
set_option maxHeartbeats 8000000 in
set_option maxRecDepth 100000 in
theorem doc_run.calls (k : Nat) (A0 : Option Addr) (c0 : Nat) (l0 : List ByteArray) (r : Int) (w : World) (hr0 : Kd.C Kd.string w A0 l0.length l0) (hc0 : l0.length ≤ c0) (h : doc_run.f k l0 = some r) :
    Calls Try.prog 71 #[.slice A0 l0.length c0] w fun e w' => e = .returned (.int .i64 r) ∧ Below w.heap.size w w' := by
  have HR0 := Aside0.mk hr0
  have HC0 := Aside0.mk hc0
  clear hr0 hc0
  have HB := Aside0.mk (Below.refl w.heap.size w)
  have H : (doc_run.l0 k 0 l0 (l0.length : Int) 0) = some r := h
  clear h
  have H' := Aside0.mk H
  clear H
  go_enter Try.func71, Try.ntmps71
  go_wp2
  go_loopg [3, 8] k (fun kq v3 v8 w' => ∃ (x3_1 : Int) (x8_1 : Int), v3 = .int .i64 x3_1 ∧ v8 = .int .i64 x8_1 ∧ Aside0 (doc_run.l0 kq x3_1 l0 (l0.length : Int) x8_1 = some r) ∧ Aside0 (kq ≤ k) ∧ Aside0 (Below w.heap.size w w'))
  case atStart => exact ⟨(0), (0), (by first | rfl | (simp; done) | (simp [*]; done)), (by first | rfl | (simp; done) | (simp [*]; done)), H', ⟨Nat.le_refl _⟩, ⟨by repeat (first | (with_reducible first | exact HB.out | apply below_alloc | apply pw_below_drewN | apply below_drew1) | exact HB.out)⟩⟩
  case round =>
    clear H'
    obtain ⟨x3_1, x8_1, rfl, rfl, HA, HK1, HB⟩ := hrel
    cases gk with
    | zero => exact absurd HA.out (by simp [doc_run.l0])
    | succ k1 =>
      have H := HA.out
      clear HA
      simp only [doc_run.l0] at H
      by_cases c2 : x8_1 < (l0.length : Int)
      · rw [if_pos c2] at H
        have c2b0 : decide (x8_1 < (l0.length : Int)) = true := decide_eq_true c2
        clear c2
        by_cases c3 : 0 ≤ x8_1
        · rw [if_pos c3] at H
          have c3b0 : decide (0 ≤ x8_1) = true := decide_eq_true c3
          clear c3
          by_cases c4 : x8_1 < (l0.length : Int)
          · rw [if_pos c4] at H
            have c4b0 : decide (x8_1 < (l0.length : Int)) = true := decide_eq_true c4
            clear c4
            replace H := Option.bind_eq_some_iff.mp H
            obtain ⟨t105, A50, H⟩ := H
            replace H : ((lines_Longest.f k1 (([t105] : List (List ByteArray)))).bind fun t111 => (doc_run.l0 k1 (mx x3_1 t111) l0 (l0.length : Int) (wrap64 (x8_1 + 1)))) = some r := H
            have A5 := Aside0.mk A50
            clear A50
            obtain ⟨y108, hy108⟩ : ∃ y_ : List (List ByteArray), y_ = (([t105] : List (List ByteArray))) := ⟨_, rfl⟩
            replace H : ((lines_Longest.f k1 y108).bind fun t111 => (doc_run.l0 k1 (mx x3_1 t111) l0 (l0.length : Int) (wrap64 (x8_1 + 1)))) = some r := by first | (rw [hy108]; with_reducible exact H) | (have H2_ := (Option.bind_some _ _).symm.trans H; rw [hy108]; with_reducible exact H2_) | (have H2_ := (Option.bind_some _ _).symm.trans H; with_reducible exact H2_) | with_reducible exact H | (rw [hy108]; exact H) | exact H
            have Ny108 := Aside0.mk hy108
            clear hy108
            replace H := Option.bind_eq_some_iff.mp H
            obtain ⟨t111, A60, H⟩ := H
            replace H : (doc_run.l0 k1 (mx x3_1 t111) l0 (l0.length : Int) (wrap64 (x8_1 + 1))) = some r := H
            have A6 := Aside0.mk A60
            clear A60
            obtain ⟨ji7, hji7⟩ : ∃ j_ : Int, (mx x3_1 t111) = j_ := ⟨_, rfl⟩
            replace H : (doc_run.l0 k1 ji7 l0 (l0.length : Int) (wrap64 (x8_1 + 1))) = some r := by first | (rw [hji7] at H; exact H) | (simp only [hji7] at H ⊢; exact H)
            (try rw [hji7] at A5)
            (try rw [hji7] at A6)
            have hji7_ : (if x3_1 < t111 then t111 else x3_1) = ji7 := hji7
            have H' := Aside0.mk H
            clear H
            have p104 : 0 ≤ (x8_1 : Int) := of_decide_eq_true (by first | (with_reducible assumption) | assumption)
            have q104 : x8_1 < (l0.length : Int) := of_decide_eq_true (by first | (with_reducible assumption) | assumption)
            obtain ⟨ad104, e104, hx104_0⟩ := Kd.at_string HR0.out x8_1 p104 q104
            cases e104
            replace hx104_0 := (HB.out.cell (World.block_lt_of_cell? w _ hx104_0)).trans hx104_0
            replace p104 := eq_true p104
            replace q104 := eq_true q104
            go_wp2_with (first | ((with_reducible refine gate_callee (f := 29) rfl ?_); refine goesL_ (some 14) rfl rfl Try.func29 (by kernel_rfl) rfl #[.string (rdOf ByteArray.empty l0 x8_1)] rfl (by (try simp only [List.map_toArray, List.map_cons, List.map_nil]); first | done | rfl | (simp only [List.length_drop, List.length_take]; rfl)) ?_; (with_reducible refine (lines_Split.calls (rdOf ByteArray.empty l0 x8_1) t105 _ A5.out).mono ?_); rintro e w8 ⟨v106, rfl, ho0, hb⟩; refine ⟨_, rfl, ?_⟩; have n0_ := Aside0.mk (Kd.R_lower ho0 (below_size (by repeat (first | (with_reducible first | exact HB.out | apply below_alloc | apply pw_below_drewN | apply below_drew1) | exact HB.out)))); have n1_ := Aside0.mk (below_step (by repeat (first | (with_reducible first | exact HB.out | apply below_alloc | apply pw_below_drewN | apply below_drew1) | exact HB.out)) hb); clear HB; have HO107 := n0_; have HB := n1_; clear n0_ n1_; (try clear hb); (try clear hb2); (try clear hk); (try clear hi); (try clear ho0); obtain ⟨Ao9, co9, eo9⟩ := Kd.R_slice HO107.out; subst eo9) | ((with_reducible refine gate_dst (N := 15) rfl ?_); refine Kd.N_lit (Kd.slice 9 Kd.string) _ 36 ?hg (N' := 15) ?hd (xs := ([t105] : List (List ByteArray))) (inner := [.slice Ao9 t105.length co9]) (ok := (fun _ => True)) (okp := (fun _ => True)) ?hr ?hp (fun _ hk => hk) ((show ∀ k_, w8.heap.size ≤ k_ → (fun _ => True) k_ from fun k_ hk => trivial) _ (Nat.le_refl _)) (Below.refl _ _) (Nat.le_refl _) (by simp) ?_; (case hd => rfl); (case hg => rfl); (case hr => first | (go_simp; done) | (go_simp; rfl)); (case hp => exact (Reps.one (show Kd.FK (Kd.slice 9 Kd.string) _ _ t105 [.slice Ao9 t105.length co9] from (Kd.FK_slice_mk (Kd.R_reads' (Kd.R_mono (ok' := (fun _ => True)) (HO107.out) (fun k_ hk => trivial))).2.1 (Kd.R_F (Kd.R_mono (ok' := (fun _ => True)) (HO107.out) (fun k_ hk => trivial))))) (Reps.none _ _))); intro v109 w10 ho11 hb hg_ hnew_; clear hg_ hnew_; (first | rw [← Ny108.out] at ho11 | (simp only [Int.reduceToNat] at ho11; rw [← Ny108.out] at ho11)); have n0_ := Aside0.mk (Kd.N_lower ho11 (below_size (by repeat (first | (with_reducible first | exact HB.out | apply below_alloc | apply pw_below_drewN | apply below_drew1) | exact HB.out)))); have n1_ := Aside0.mk (below_step (by repeat (first | (with_reducible first | exact HB.out | apply below_alloc | apply pw_below_drewN | apply below_drew1) | exact HB.out)) hb); clear HB; clear HO107; have HO110 := n0_; have HB := n1_; clear n0_ n1_; clear hb ho11; obtain ⟨Ao12, co12, eo12⟩ := Kd.N_slice HO110.out; subst eo12) | ((with_reducible refine gate_callee (f := 40) rfl ?_); refine goesL_ (some 16) rfl rfl Try.func40 (by kernel_rfl) rfl #[.slice Ao12 y108.length co12] rfl (by (try simp only [List.map_toArray, List.map_cons, List.map_nil]); first | done | rfl | (simp only [List.length_drop, List.length_take]; rfl)) ?_; (with_reducible refine (lines_Longest.calls k1 _ _ y108 t111 _ ?side1 ?side2 A6.out).mono ?_); (case side1 => repeat (first | exact (Kd.N_reads' HO110.out).2.2 | (with_reducible refine Kd.C_alloc ?_ _) | (with_reducible refine Kd.C_drewN ?_ _) | (with_reducible refine Kd.C_drew ?_))); (case side2 => exact (Kd.N_reads' HO110.out).2.1); rintro e w13 ⟨rfl, hb⟩; refine ⟨_, rfl, ?_⟩; have n0_ := Aside0.mk (Kd.N_below (by (with_reducible repeat (first | apply Kd.N_alloc | apply Kd.N_drewN | apply Kd.N_drew)); exact HO110.out) hb); have n1_ := Aside0.mk (below_step (by repeat (first | (with_reducible first | exact HB.out | apply below_alloc | apply pw_below_drewN | apply below_drew1) | exact HB.out)) hb); clear HO110; clear HB; have HO110 := n0_; have HB := n1_; clear n0_ n1_; (try clear hb); (try clear hb2); (try clear hk); (try clear hi)))
            go_roundg k1
            case measure => have := HK1.out; omega
            case rel => exact ⟨(ji7), (wrap64 (x8_1 + 1)), (by first | rfl | (simp; done) | (simp only [← hji7] <;> (first | rfl | simp)) | (simp [*]; done)), (by first | rfl | (simp; done) | (simp [*]; done)), H', ⟨by have := HK1.out; omega⟩, ⟨by repeat (first | (with_reducible first | exact HB.out | apply below_alloc | apply pw_below_drewN | apply below_drew1) | exact HB.out)⟩⟩
          · rw [if_neg c4] at H
            exact absurd H (by simp)
        · rw [if_neg c3] at H
          exact absurd H (by simp)
      · rw [if_neg c2] at H
        have c2b0 : decide (x8_1 < (l0.length : Int)) = false := decide_eq_false c2
        clear c2
        obtain rfl := Option.some.inj H
        go_wp2
        go_ret
        exact ⟨by first | rfl | (simp [errW_none, errW_some] <;> rfl) | (simp [*, errW_none, errW_some] <;> rfl), by repeat (first | (with_reducible first | exact HB.out | apply below_alloc | apply pw_below_drewN | apply below_drew1) | exact HB.out)⟩
end Go.Proofs.Ytfiamddinkokbaa.F
end

section
set_option linter.unusedVariables false
set_option linter.unusedSimpArgs false
namespace Go.Proofs.Ytfiamddinkokbaa.F
open Go.RowKit Go.Proofs.YtfiamddinkokbaaW.PrintWords Go.Proofs.YtfiamddinkokbaaW.PrintLast Go.Proofs.YtfiamddinkokbaaW.PrintMore
attribute [local go_sem] max2_int min2_int max_two min_two max_three min_three max_four min_four
set_option linter.unusedVariables false
set_option linter.unusedSimpArgs false
def doc_Width.f (k : Nat) (a0 : Int) (l1 : List ByteArray) : Option (Int) := (doc_run.f k l1).bind fun t112 => (some (mx a0 (wrap64 (t112 + 1))))
theorem doc_Width.mono : ∀ a0 a1 k, LeO (doc_Width.f k a0 a1) (doc_Width.f (k + 1) a0 a1) := by
  intro a0 a1 k
  unfold doc_Width.f
  repeat' first
      | (with_reducible exact doc_run.mono _ _)
      | (with_reducible exact LeO.refl _)
      | (with_reducible exact LeO.none _)
      | (with_reducible refine LeO.ite ?_ ?_)
      | (with_reducible refine LeO.bind ?_ (fun _ => ?_))
      | exact doc_run.mono _ _
      | exact LeO.none _
      | refine LeO.ite ?_ ?_
      | refine LeO.bind ?_ (fun _ => ?_)
set_option maxHeartbeats 8000000 in
set_option maxRecDepth 100000 in
theorem doc_Width.calls (k : Nat) (a0 : Int) (A1 : Option Addr) (c1 : Nat) (l1 : List ByteArray) (r : Int) (w : World) (hr1 : Kd.C Kd.string w A1 l1.length l1) (hc1 : l1.length ≤ c1) (h : doc_Width.f k a0 l1 = some r) :
    Calls Try.prog 19 #[.int .i64 a0, .slice A1 l1.length c1] w fun e w' => e = .returned (.int .i64 r) ∧ Below w.heap.size w w' := by
  have HR1 := Aside0.mk hr1
  have HC1 := Aside0.mk hc1
  clear hr1 hc1
  have HB := Aside0.mk (Below.refl w.heap.size w)
  have H : ((doc_run.f k l1).bind fun t112 => (some (mx a0 (wrap64 (t112 + 1))))) = some r := h
  clear h
  replace H := Option.bind_eq_some_iff.mp H
  obtain ⟨t112, A30, H⟩ := H
  replace H : (some (mx a0 (wrap64 (t112 + 1)))) = some r := H
  have A3 := Aside0.mk A30
  clear A30
  obtain ⟨ji4, hji4⟩ : ∃ j_ : Int, (mx a0 (wrap64 (t112 + 1))) = j_ := ⟨_, rfl⟩
  replace H : (some ji4) = some r := by first | (rw [hji4] at H; exact H) | (simp only [hji4] at H ⊢; exact H)
  (try rw [hji4] at A3)
  have hji4_ : (if a0 < (wrap64 (t112 + 1)) then (wrap64 (t112 + 1)) else a0) = ji4 := hji4
  obtain rfl := Option.some.inj H
  go_enter Try.func19, Try.ntmps19
  go_wp2_with (first | ((with_reducible refine gate_callee (f := 71) rfl ?_); refine goesL_ (some 7) rfl rfl Try.func71 (by kernel_rfl) rfl #[.slice A1 l1.length c1] rfl (by (try simp only [List.map_toArray, List.map_cons, List.map_nil]); first | done | rfl | (simp only [List.length_drop, List.length_take]; rfl)) ?_; (with_reducible refine (doc_run.calls k _ _ l1 t112 _ ?side1 ?side2 A3.out).mono ?_); (case side1 => repeat (first | exact HR1.out | (with_reducible refine Kd.C_alloc ?_ _) | (with_reducible refine Kd.C_drewN ?_ _) | (with_reducible refine Kd.C_drew ?_))); (case side2 => exact HC1.out); rintro e w5 ⟨rfl, hb⟩; refine ⟨_, rfl, ?_⟩; have n0_ := Aside0.mk (below_step (by repeat (first | (with_reducible first | exact HB.out | apply below_alloc | apply pw_below_drewN | apply below_drew1) | exact HB.out)) hb); clear HB; have HB := n0_; clear n0_; (try clear hb); (try clear hb2); (try clear hk); (try clear hi)))
  go_ret
  exact ⟨by first | rfl | (simp [errW_none, errW_some] <;> rfl) | (simp only [← hji4]; first | rfl | (simp [errW_none, errW_some] <;> rfl)) | (simp [*, errW_none, errW_some] <;> rfl), by repeat (first | (with_reducible first | exact HB.out | apply below_alloc | apply pw_below_drewN | apply below_drew1) | exact HB.out)⟩
end Go.Proofs.Ytfiamddinkokbaa.F
end

section
set_option linter.unusedVariables false
set_option linter.unusedSimpArgs false
namespace Go.Proofs.Ytfiamddinkokbaa.F
open Go.RowKit Go.Proofs.YtfiamddinkokbaaW.PrintWords Go.Proofs.YtfiamddinkokbaaW.PrintLast Go.Proofs.YtfiamddinkokbaaW.PrintMore
attribute [local go_sem] max2_int min2_int max_two min_two max_three min_three max_four min_four
set_option linter.unusedVariables false
set_option linter.unusedSimpArgs false
def doc_Doc_Conflicts.l0 : Nat → Int → List (S106) → Int → Int → Option (Int)
  | 0, _, _, _, _ => none
  | k + 1, x3, x6, x7, x8 => if x8 < x7 then (if 0 ≤ x8 then (if x8 < (x6.length : Int) then (if (rd_T106 x6 x8).f1 = true then (doc_Doc_Conflicts.l0 k (wrap64 (x3 + 1)) x6 x7 (wrap64 (x8 + 1))) else (doc_Doc_Conflicts.l0 k x3 x6 x7 (wrap64 (x8 + 1)))) else (none)) else (none)) else (some x3)
def doc_Doc_Conflicts.f (k : Nat) (l0 : List (S106)) : Option (Int) := doc_Doc_Conflicts.l0 k 0 l0 (l0.length : Int) 0
theorem doc_Doc_Conflicts.mono_l : ∀ k, (∀ y0 y1 y2 y3, LeO (doc_Doc_Conflicts.l0 k y0 y1 y2 y3) (doc_Doc_Conflicts.l0 (k + 1) y0 y1 y2 y3))
  | 0 => fun _ _ _ _ r h => by simp [doc_Doc_Conflicts.l0] at h
  | k + 1 => by
    have ih0 := doc_Doc_Conflicts.mono_l k
    · intro y0 y1 y2 y3
      unfold doc_Doc_Conflicts.l0
      repeat' first
      | (with_reducible exact ih0 _ _ _ _)
      | (with_reducible exact LeO.refl _)
      | (with_reducible exact LeO.none _)
      | (with_reducible refine LeO.ite ?_ ?_)
      | (with_reducible refine LeO.bind ?_ (fun _ => ?_))
      | exact ih0 _ _ _ _
      | exact LeO.none _
      | refine LeO.ite ?_ ?_
      | refine LeO.bind ?_ (fun _ => ?_)
theorem doc_Doc_Conflicts.mono : ∀ a0 k, LeO (doc_Doc_Conflicts.f k a0) (doc_Doc_Conflicts.f (k + 1) a0) := by
  intro a0 k
  have ih0 := doc_Doc_Conflicts.mono_l k
  unfold doc_Doc_Conflicts.f
  repeat' first
      | (with_reducible exact ih0 _ _ _ _)
      | (with_reducible exact LeO.refl _)
      | (with_reducible exact LeO.none _)
      | (with_reducible refine LeO.ite ?_ ?_)
      | (with_reducible refine LeO.bind ?_ (fun _ => ?_))
      | exact ih0 _ _ _ _
      | exact LeO.none _
      | refine LeO.ite ?_ ?_
      | refine LeO.bind ?_ (fun _ => ?_)
set_option maxHeartbeats 8000000 in
set_option maxRecDepth 100000 in
theorem doc_Doc_Conflicts.calls (k : Nat) (A0 : Option Addr) (c0 : Nat) (l0 : List (S106)) (r : Int) (w : World) (hr0 : Kd.C k106 w A0 l0.length l0) (hc0 : l0.length ≤ c0) (h : doc_Doc_Conflicts.f k l0 = some r) :
    Calls Try.prog 65 #[.slice A0 l0.length c0] w fun e w' => e = .returned (.int .i64 r) ∧ Below w.heap.size w w' := by
  have hu106 := Try.underlying106
  have HR0 := Aside0.mk hr0
  have HC0 := Aside0.mk hc0
  clear hr0 hc0
  have HB := Aside0.mk (Below.refl w.heap.size w)
  have H : (doc_Doc_Conflicts.l0 k 0 l0 (l0.length : Int) 0) = some r := h
  clear h
  have H' := Aside0.mk H
  clear H
  go_enter Try.func65, Try.ntmps65
  go_wp2
  go_loopg [3, 8] k (fun kq v3 v8 w' => ∃ (x3_1 : Int) (x8_1 : Int), v3 = .int .i64 x3_1 ∧ v8 = .int .i64 x8_1 ∧ Aside0 (doc_Doc_Conflicts.l0 kq x3_1 l0 (l0.length : Int) x8_1 = some r) ∧ Aside0 (kq ≤ k) ∧ Aside0 (Below w.heap.size w w'))
  case atStart => exact ⟨(0), (0), (by first | rfl | (simp; done) | (simp [*]; done)), (by first | rfl | (simp; done) | (simp [*]; done)), H', ⟨Nat.le_refl _⟩, ⟨by repeat (first | (with_reducible first | exact HB.out | apply below_alloc | apply pw_below_drewN | apply below_drew1) | exact HB.out)⟩⟩
  case round =>
    clear H'
    obtain ⟨x3_1, x8_1, rfl, rfl, HA, HK1, HB⟩ := hrel
    cases gk with
    | zero => exact absurd HA.out (by simp [doc_Doc_Conflicts.l0])
    | succ k1 =>
      have H := HA.out
      clear HA
      simp only [doc_Doc_Conflicts.l0] at H
      by_cases c2 : x8_1 < (l0.length : Int)
      · rw [if_pos c2] at H
        have c2b0 : decide (x8_1 < (l0.length : Int)) = true := decide_eq_true c2
        clear c2
        by_cases c3 : 0 ≤ x8_1
        · rw [if_pos c3] at H
          have c3b0 : decide (0 ≤ x8_1) = true := decide_eq_true c3
          clear c3
          by_cases c4 : x8_1 < (l0.length : Int)
          · rw [if_pos c4] at H
            have c4b0 : decide (x8_1 < (l0.length : Int)) = true := decide_eq_true c4
            clear c4
            obtain ⟨bq5, hbq5⟩ : ∃ b_ : Bool, b_ = ((rd_T106 l0 x8_1).f1) := ⟨_, rfl⟩
            replace H : (if bq5 = true then (doc_Doc_Conflicts.l0 k1 (wrap64 (x3_1 + 1)) l0 (l0.length : Int) (wrap64 (x8_1 + 1))) else (doc_Doc_Conflicts.l0 k1 x3_1 l0 (l0.length : Int) (wrap64 (x8_1 + 1)))) = some r := by rw [← hbq5] at H; exact H
            have Nbq5 := Aside0.mk hbq5
            clear hbq5
            by_cases c6 : bq5 = true
            · subst c6
              have H1 : (doc_Doc_Conflicts.l0 k1 (wrap64 (x3_1 + 1)) l0 (l0.length : Int) (wrap64 (x8_1 + 1))) = some r := by rw [if_pos rfl] at H; exact H
              clear H
              have H := H1
              clear H1
              have H' := Aside0.mk H
              clear H
              have p130 : 0 ≤ (x8_1 : Int) := of_decide_eq_true (by first | (with_reducible assumption) | assumption)
              have q130 : x8_1 < (l0.length : Int) := of_decide_eq_true (by first | (with_reducible assumption) | assumption)
              obtain ⟨ad130, e130, hx130_0, hx130_1, hx130_2, hx130_3, hx130_4, hx130_5, hx130_6, hx130_7, hx130_8⟩ := at_T106 HR0.out x8_1 p130 q130
              (try rw [← Nbq5.out] at hx130_3)
              (try rw [← Nbq5.out] at hx130_8)
              cases e130
              replace hx130_0 := (HB.out.cell (World.block_lt_of_cell? w _ hx130_0)).trans hx130_0
              replace hx130_1 := (HB.out.cell (World.block_lt_of_cell? w _ hx130_1)).trans hx130_1
              replace hx130_2 := (HB.out.cell (World.block_lt_of_cell? w _ hx130_2)).trans hx130_2
              replace hx130_3 := (HB.out.cell (World.block_lt_of_cell? w _ hx130_3)).trans hx130_3
              replace hx130_4 := (HB.out.cell (World.block_lt_of_cell? w _ hx130_4)).trans hx130_4
              replace hx130_5 := (HB.out.cell (World.block_lt_of_cell? w _ hx130_5)).trans hx130_5
              replace hx130_6 := (HB.out.cell (World.block_lt_of_cell? w _ hx130_6)).trans hx130_6
              replace hx130_7 := (HB.out.cell (World.block_lt_of_cell? w _ hx130_7)).trans hx130_7
              replace hx130_8 := (HB.out.cell (World.block_lt_of_cell? w _ hx130_8)).trans hx130_8
              replace p130 := eq_true p130
              replace q130 := eq_true q130
              go_wp2_with (first | ((with_reducible refine gate_dst (N := 5) rfl ?_); refine box_event ?hg (N := 5) ?hd (cs := #[.string (⟨#[]⟩ : ByteArray), .string (⟨#[]⟩ : ByteArray), .string (⟨#[]⟩ : ByteArray), .bool false, .string (⟨#[]⟩ : ByteArray), .string (⟨#[]⟩ : ByteArray), .string (⟨#[]⟩ : ByteArray), .string (⟨#[]⟩ : ByteArray), .bool false]) (t := 106) ?hr ?_; (case hd => rfl); (case hg => rfl); (case hr => first | (go_simp; done) | (go_simp; rfl)); intro gb131 hg w7 hbox hb; have n0_ := Aside0.mk (below_step (by repeat (first | (with_reducible first | exact HB.out | apply below_alloc | apply pw_below_drewN | apply below_drew1) | exact HB.out)) hb); have n1_ := Aside0.mk (hbox); have n2_ := Aside0.mk ((by rw [hg]; exact (below_size (by repeat (first | (with_reducible first | exact HB.out | apply below_alloc | apply pw_below_drewN | apply below_drew1) | exact HB.out))) : w.heap.size ≤ gb131)); have n3_ := Aside0.mk ((by rw [hg]; exact (below_size (by repeat (first | (with_reducible first | exact HB.out | apply below_alloc | apply pw_below_drewN | apply below_drew1) | exact HB.out))) : w.heap.size ≤ gb131)); clear HB; have HB := n0_; have BK131 := n1_; have GW131 := n2_; have GE131 := n3_; clear n0_ n1_ n2_ n3_; clear hb hbox hg; have hcz8_0 : w7.cell? ⟨gb131, 0, none⟩ = some (.string (⟨#[]⟩ : ByteArray)) := (blk_cell BK131.out 0).trans rfl; have hcz8_1 : w7.cell? ⟨gb131, 1, none⟩ = some (.string (⟨#[]⟩ : ByteArray)) := (blk_cell BK131.out 1).trans rfl; have hcz8_2 : w7.cell? ⟨gb131, 2, none⟩ = some (.string (⟨#[]⟩ : ByteArray)) := (blk_cell BK131.out 2).trans rfl; have hcz8_3 : w7.cell? ⟨gb131, 3, none⟩ = some (.bool false) := (blk_cell BK131.out 3).trans rfl; have hcz8_4 : w7.cell? ⟨gb131, 4, none⟩ = some (.string (⟨#[]⟩ : ByteArray)) := (blk_cell BK131.out 4).trans rfl; have hcz8_5 : w7.cell? ⟨gb131, 5, none⟩ = some (.string (⟨#[]⟩ : ByteArray)) := (blk_cell BK131.out 5).trans rfl; have hcz8_6 : w7.cell? ⟨gb131, 6, none⟩ = some (.string (⟨#[]⟩ : ByteArray)) := (blk_cell BK131.out 6).trans rfl; have hcz8_7 : w7.cell? ⟨gb131, 7, none⟩ = some (.string (⟨#[]⟩ : ByteArray)) := (blk_cell BK131.out 7).trans rfl; have hcz8_8 : w7.cell? ⟨gb131, 8, none⟩ = some (.bool false) := (blk_cell BK131.out 8).trans rfl; have hfz8_0 := blk_frozen BK131.out 0; have hfz8_1 := blk_frozen BK131.out 1; have hfz8_2 := blk_frozen BK131.out 2; have hfz8_3 := blk_frozen BK131.out 3; have hfz8_4 := blk_frozen BK131.out 4; have hfz8_5 := blk_frozen BK131.out 5; have hfz8_6 := blk_frozen BK131.out 6; have hfz8_7 := blk_frozen BK131.out 7; have hfz8_8 := blk_frozen BK131.out 8))
              go_roundg k1
              case measure => have := HK1.out; omega
              case rel => exact ⟨(wrap64 (x3_1 + 1)), (wrap64 (x8_1 + 1)), (by first | rfl | (simp; done) | (simp [*]; done)), (by first | rfl | (simp; done) | (simp [*]; done)), H', ⟨by have := HK1.out; omega⟩, ⟨by repeat (first | (with_reducible first | exact HB.out | apply below_alloc | apply pw_below_drewN | apply below_drew1 | refine below_set ?_ GE131.out) | exact HB.out)⟩⟩
            · replace c6 := Bool.eq_false_iff.mpr c6
              subst c6
              have H1 : (doc_Doc_Conflicts.l0 k1 x3_1 l0 (l0.length : Int) (wrap64 (x8_1 + 1))) = some r := by rw [if_neg (show ¬ (false = true) by decide)] at H; exact H
              clear H
              have H := H1
              clear H1
              have H' := Aside0.mk H
              clear H
              have p130 : 0 ≤ (x8_1 : Int) := of_decide_eq_true (by first | (with_reducible assumption) | assumption)
              have q130 : x8_1 < (l0.length : Int) := of_decide_eq_true (by first | (with_reducible assumption) | assumption)
              obtain ⟨ad130, e130, hx130_0, hx130_1, hx130_2, hx130_3, hx130_4, hx130_5, hx130_6, hx130_7, hx130_8⟩ := at_T106 HR0.out x8_1 p130 q130
              (try rw [← Nbq5.out] at hx130_3)
              (try rw [← Nbq5.out] at hx130_8)
              cases e130
              replace hx130_0 := (HB.out.cell (World.block_lt_of_cell? w _ hx130_0)).trans hx130_0
              replace hx130_1 := (HB.out.cell (World.block_lt_of_cell? w _ hx130_1)).trans hx130_1
              replace hx130_2 := (HB.out.cell (World.block_lt_of_cell? w _ hx130_2)).trans hx130_2
              replace hx130_3 := (HB.out.cell (World.block_lt_of_cell? w _ hx130_3)).trans hx130_3
              replace hx130_4 := (HB.out.cell (World.block_lt_of_cell? w _ hx130_4)).trans hx130_4
              replace hx130_5 := (HB.out.cell (World.block_lt_of_cell? w _ hx130_5)).trans hx130_5
              replace hx130_6 := (HB.out.cell (World.block_lt_of_cell? w _ hx130_6)).trans hx130_6
              replace hx130_7 := (HB.out.cell (World.block_lt_of_cell? w _ hx130_7)).trans hx130_7
              replace hx130_8 := (HB.out.cell (World.block_lt_of_cell? w _ hx130_8)).trans hx130_8
              replace p130 := eq_true p130
              replace q130 := eq_true q130
              go_wp2_with (first | ((with_reducible refine gate_dst (N := 5) rfl ?_); refine box_event ?hg (N := 5) ?hd (cs := #[.string (⟨#[]⟩ : ByteArray), .string (⟨#[]⟩ : ByteArray), .string (⟨#[]⟩ : ByteArray), .bool false, .string (⟨#[]⟩ : ByteArray), .string (⟨#[]⟩ : ByteArray), .string (⟨#[]⟩ : ByteArray), .string (⟨#[]⟩ : ByteArray), .bool false]) (t := 106) ?hr ?_; (case hd => rfl); (case hg => rfl); (case hr => first | (go_simp; done) | (go_simp; rfl)); intro gb131 hg w9 hbox hb; have n0_ := Aside0.mk (below_step (by repeat (first | (with_reducible first | exact HB.out | apply below_alloc | apply pw_below_drewN | apply below_drew1) | exact HB.out)) hb); have n1_ := Aside0.mk (hbox); have n2_ := Aside0.mk ((by rw [hg]; exact (below_size (by repeat (first | (with_reducible first | exact HB.out | apply below_alloc | apply pw_below_drewN | apply below_drew1) | exact HB.out))) : w.heap.size ≤ gb131)); have n3_ := Aside0.mk ((by rw [hg]; exact (below_size (by repeat (first | (with_reducible first | exact HB.out | apply below_alloc | apply pw_below_drewN | apply below_drew1) | exact HB.out))) : w.heap.size ≤ gb131)); clear HB; have HB := n0_; have BK131 := n1_; have GW131 := n2_; have GE131 := n3_; clear n0_ n1_ n2_ n3_; clear hb hbox hg; have hcz10_0 : w9.cell? ⟨gb131, 0, none⟩ = some (.string (⟨#[]⟩ : ByteArray)) := (blk_cell BK131.out 0).trans rfl; have hcz10_1 : w9.cell? ⟨gb131, 1, none⟩ = some (.string (⟨#[]⟩ : ByteArray)) := (blk_cell BK131.out 1).trans rfl; have hcz10_2 : w9.cell? ⟨gb131, 2, none⟩ = some (.string (⟨#[]⟩ : ByteArray)) := (blk_cell BK131.out 2).trans rfl; have hcz10_3 : w9.cell? ⟨gb131, 3, none⟩ = some (.bool false) := (blk_cell BK131.out 3).trans rfl; have hcz10_4 : w9.cell? ⟨gb131, 4, none⟩ = some (.string (⟨#[]⟩ : ByteArray)) := (blk_cell BK131.out 4).trans rfl; have hcz10_5 : w9.cell? ⟨gb131, 5, none⟩ = some (.string (⟨#[]⟩ : ByteArray)) := (blk_cell BK131.out 5).trans rfl; have hcz10_6 : w9.cell? ⟨gb131, 6, none⟩ = some (.string (⟨#[]⟩ : ByteArray)) := (blk_cell BK131.out 6).trans rfl; have hcz10_7 : w9.cell? ⟨gb131, 7, none⟩ = some (.string (⟨#[]⟩ : ByteArray)) := (blk_cell BK131.out 7).trans rfl; have hcz10_8 : w9.cell? ⟨gb131, 8, none⟩ = some (.bool false) := (blk_cell BK131.out 8).trans rfl; have hfz10_0 := blk_frozen BK131.out 0; have hfz10_1 := blk_frozen BK131.out 1; have hfz10_2 := blk_frozen BK131.out 2; have hfz10_3 := blk_frozen BK131.out 3; have hfz10_4 := blk_frozen BK131.out 4; have hfz10_5 := blk_frozen BK131.out 5; have hfz10_6 := blk_frozen BK131.out 6; have hfz10_7 := blk_frozen BK131.out 7; have hfz10_8 := blk_frozen BK131.out 8))
              go_roundg k1
              case measure => have := HK1.out; omega
              case rel => exact ⟨(x3_1), (wrap64 (x8_1 + 1)), (by first | rfl | (simp; done) | (simp [*]; done)), (by first | rfl | (simp; done) | (simp [*]; done)), H', ⟨by have := HK1.out; omega⟩, ⟨by repeat (first | (with_reducible first | exact HB.out | apply below_alloc | apply pw_below_drewN | apply below_drew1 | refine below_set ?_ GE131.out) | exact HB.out)⟩⟩
          · rw [if_neg c4] at H
            exact absurd H (by simp)
        · rw [if_neg c3] at H
          exact absurd H (by simp)
      · rw [if_neg c2] at H
        have c2b0 : decide (x8_1 < (l0.length : Int)) = false := decide_eq_false c2
        clear c2
        obtain rfl := Option.some.inj H
        go_wp2
        go_ret
        exact ⟨by first | rfl | (simp [errW_none, errW_some] <;> rfl) | (simp [*, errW_none, errW_some] <;> rfl), by repeat (first | (with_reducible first | exact HB.out | apply below_alloc | apply pw_below_drewN | apply below_drew1) | exact HB.out)⟩
end Go.Proofs.Ytfiamddinkokbaa.F
end

section
set_option linter.unusedVariables false
set_option linter.unusedSimpArgs false
namespace Go.Proofs.Ytfiamddinkokbaa.F
open Go.RowKit Go.Proofs.YtfiamddinkokbaaW.PrintWords Go.Proofs.YtfiamddinkokbaaW.PrintLast Go.Proofs.YtfiamddinkokbaaW.PrintMore
attribute [local go_sem] max2_int min2_int max_two min_two max_three min_three max_four min_four
set_option linter.unusedVariables false
set_option linter.unusedSimpArgs false
def doc_Part_isConflict.f (a0_0 : ByteArray) (a0_1 : ByteArray) (a0_2 : ByteArray) (a0_3 : Bool) (a0_4 : ByteArray) (a0_5 : ByteArray) (a0_6 : ByteArray) (a0_7 : ByteArray) (a0_8 : Bool) : Option (Bool) := if a0_3 = true then (if a0_4.toList = ([] : List UInt8) then (if a0_8 = true then (some true) else (if a0_6.size + a0_1.size ≤ 9223372036854775807 then (some ((a0_6 ++ a0_1).toList == ([] : List UInt8))) else (none))) else (some false)) else (some false)
set_option maxHeartbeats 8000000 in
set_option maxRecDepth 100000 in
theorem doc_Part_isConflict.calls (a0_0 : ByteArray) (a0_1 : ByteArray) (a0_2 : ByteArray) (a0_3 : Bool) (a0_4 : ByteArray) (a0_5 : ByteArray) (a0_6 : ByteArray) (a0_7 : ByteArray) (a0_8 : Bool) (r : Bool) (w : World) (h : doc_Part_isConflict.f a0_0 a0_1 a0_2 a0_3 a0_4 a0_5 a0_6 a0_7 a0_8 = some r) :
    Calls Try.prog 113 #[.agg #[.string a0_0, .string a0_1, .string a0_2, .bool a0_3, .string a0_4, .string a0_5, .string a0_6, .string a0_7, .bool a0_8]] w fun e w' => e = .returned (.bool r) ∧ Below w.heap.size w w' := by
  have hu106 := Try.underlying106
  have HB := Aside0.mk (Below.refl w.heap.size w)
  have H : (if a0_3 = true then (if a0_4.toList = ([] : List UInt8) then (if a0_8 = true then (some true) else (if a0_6.size + a0_1.size ≤ 9223372036854775807 then (some ((a0_6 ++ a0_1).toList == ([] : List UInt8))) else (none))) else (some false)) else (some false)) = some r := h
  clear h
  by_cases c2 : a0_3 = true
  · subst c2
    have H1 : (if a0_4.toList = ([] : List UInt8) then (if a0_8 = true then (some true) else (if a0_6.size + a0_1.size ≤ 9223372036854775807 then (some ((a0_6 ++ a0_1).toList == ([] : List UInt8))) else (none))) else (some false)) = some r := by rw [if_pos rfl] at H; exact H
    clear H
    have H := H1
    clear H1
    by_cases c3 : a0_4.toList = ([] : List UInt8)
    · rw [if_pos c3] at H
      have c3b0 : (a0_4.toList == ([] : List UInt8)) = true := beq_iff_eq.mpr c3
      have c3b1 : (a0_4.toList != ([] : List UInt8)) = false := bne_eq_false_iff_eq.mpr c3
      clear c3
      by_cases c4 : a0_8 = true
      · subst c4
        have H1 : (some true) = some r := by rw [if_pos rfl] at H; exact H
        clear H
        have H := H1
        clear H1
        obtain rfl := Option.some.inj H
        go_enter Try.func113, Try.ntmps113
        go_wp2_with (first | ((with_reducible refine gate_dst (N := 1) rfl ?_); refine box_event ?hg (N := 1) ?hd (cs := #[.string a0_0, .string a0_1, .string a0_2, .bool true, .string a0_4, .string a0_5, .string a0_6, .string a0_7, .bool true]) (t := 106) ?hr ?_; (case hd => rfl); (case hg => rfl); (case hr => first | (go_simp; done) | (go_simp; rfl)); intro gb132 hg w5 hbox hb; have n0_ := Aside0.mk (below_step (by repeat (first | (with_reducible first | exact HB.out | apply below_alloc | apply pw_below_drewN | apply below_drew1) | exact HB.out)) hb); have n1_ := Aside0.mk (hbox); have n2_ := Aside0.mk ((by rw [hg]; exact (below_size (by repeat (first | (with_reducible first | exact HB.out | apply below_alloc | apply pw_below_drewN | apply below_drew1) | exact HB.out))) : w.heap.size ≤ gb132)); have n3_ := Aside0.mk ((by rw [hg]; exact (below_size (by repeat (first | (with_reducible first | exact HB.out | apply below_alloc | apply pw_below_drewN | apply below_drew1) | exact HB.out))) : w.heap.size ≤ gb132)); clear HB; have HB := n0_; have BK132 := n1_; have GW132 := n2_; have GE132 := n3_; clear n0_ n1_ n2_ n3_; clear hb hbox hg; have hcz6_0 : w5.cell? ⟨gb132, 0, none⟩ = some (.string a0_0) := (blk_cell BK132.out 0).trans rfl; have hcz6_1 : w5.cell? ⟨gb132, 1, none⟩ = some (.string a0_1) := (blk_cell BK132.out 1).trans rfl; have hcz6_2 : w5.cell? ⟨gb132, 2, none⟩ = some (.string a0_2) := (blk_cell BK132.out 2).trans rfl; have hcz6_3 : w5.cell? ⟨gb132, 3, none⟩ = some (.bool true) := (blk_cell BK132.out 3).trans rfl; have hcz6_4 : w5.cell? ⟨gb132, 4, none⟩ = some (.string a0_4) := (blk_cell BK132.out 4).trans rfl; have hcz6_5 : w5.cell? ⟨gb132, 5, none⟩ = some (.string a0_5) := (blk_cell BK132.out 5).trans rfl; have hcz6_6 : w5.cell? ⟨gb132, 6, none⟩ = some (.string a0_6) := (blk_cell BK132.out 6).trans rfl; have hcz6_7 : w5.cell? ⟨gb132, 7, none⟩ = some (.string a0_7) := (blk_cell BK132.out 7).trans rfl; have hcz6_8 : w5.cell? ⟨gb132, 8, none⟩ = some (.bool true) := (blk_cell BK132.out 8).trans rfl; have hfz6_0 := blk_frozen BK132.out 0; have hfz6_1 := blk_frozen BK132.out 1; have hfz6_2 := blk_frozen BK132.out 2; have hfz6_3 := blk_frozen BK132.out 3; have hfz6_4 := blk_frozen BK132.out 4; have hfz6_5 := blk_frozen BK132.out 5; have hfz6_6 := blk_frozen BK132.out 6; have hfz6_7 := blk_frozen BK132.out 7; have hfz6_8 := blk_frozen BK132.out 8))
        go_ret
        exact ⟨by first | rfl | (simp [errW_none, errW_some] <;> rfl) | (simp [*, errW_none, errW_some] <;> rfl), by repeat (first | (with_reducible first | exact HB.out | apply below_alloc | apply pw_below_drewN | apply below_drew1 | refine below_set ?_ GE132.out) | exact HB.out)⟩
      · replace c4 := Bool.eq_false_iff.mpr c4
        subst c4
        have H1 : (if a0_6.size + a0_1.size ≤ 9223372036854775807 then (some ((a0_6 ++ a0_1).toList == ([] : List UInt8))) else (none)) = some r := by rw [if_neg (show ¬ (false = true) by decide)] at H; exact H
        clear H
        have H := H1
        clear H1
        by_cases c7 : a0_6.size + a0_1.size ≤ 9223372036854775807
        · rw [if_pos c7] at H
          have c7b0 := eq_true c7
          have c7b1 : decide (a0_6.size + a0_1.size ≤ 9223372036854775807) = true := decide_eq_true c7
          try have c7b2 : (9223372036854775807 < a0_6.size + a0_1.size) = False := eq_false (Nat.not_lt.2 c7)
          obtain rfl := Option.some.inj H
          go_enter Try.func113, Try.ntmps113
          go_wp2_with (first | ((with_reducible refine gate_dst (N := 1) rfl ?_); refine box_event ?hg (N := 1) ?hd (cs := #[.string a0_0, .string a0_1, .string a0_2, .bool true, .string a0_4, .string a0_5, .string a0_6, .string a0_7, .bool false]) (t := 106) ?hr ?_; (case hd => rfl); (case hg => rfl); (case hr => first | (go_simp; done) | (go_simp; rfl)); intro gb132 hg w8 hbox hb; have n0_ := Aside0.mk (below_step (by repeat (first | (with_reducible first | exact HB.out | apply below_alloc | apply pw_below_drewN | apply below_drew1) | exact HB.out)) hb); have n1_ := Aside0.mk (hbox); have n2_ := Aside0.mk ((by rw [hg]; exact (below_size (by repeat (first | (with_reducible first | exact HB.out | apply below_alloc | apply pw_below_drewN | apply below_drew1) | exact HB.out))) : w.heap.size ≤ gb132)); have n3_ := Aside0.mk ((by rw [hg]; exact (below_size (by repeat (first | (with_reducible first | exact HB.out | apply below_alloc | apply pw_below_drewN | apply below_drew1) | exact HB.out))) : w.heap.size ≤ gb132)); clear HB; have HB := n0_; have BK132 := n1_; have GW132 := n2_; have GE132 := n3_; clear n0_ n1_ n2_ n3_; clear hb hbox hg; have hcz9_0 : w8.cell? ⟨gb132, 0, none⟩ = some (.string a0_0) := (blk_cell BK132.out 0).trans rfl; have hcz9_1 : w8.cell? ⟨gb132, 1, none⟩ = some (.string a0_1) := (blk_cell BK132.out 1).trans rfl; have hcz9_2 : w8.cell? ⟨gb132, 2, none⟩ = some (.string a0_2) := (blk_cell BK132.out 2).trans rfl; have hcz9_3 : w8.cell? ⟨gb132, 3, none⟩ = some (.bool true) := (blk_cell BK132.out 3).trans rfl; have hcz9_4 : w8.cell? ⟨gb132, 4, none⟩ = some (.string a0_4) := (blk_cell BK132.out 4).trans rfl; have hcz9_5 : w8.cell? ⟨gb132, 5, none⟩ = some (.string a0_5) := (blk_cell BK132.out 5).trans rfl; have hcz9_6 : w8.cell? ⟨gb132, 6, none⟩ = some (.string a0_6) := (blk_cell BK132.out 6).trans rfl; have hcz9_7 : w8.cell? ⟨gb132, 7, none⟩ = some (.string a0_7) := (blk_cell BK132.out 7).trans rfl; have hcz9_8 : w8.cell? ⟨gb132, 8, none⟩ = some (.bool false) := (blk_cell BK132.out 8).trans rfl; have hfz9_0 := blk_frozen BK132.out 0; have hfz9_1 := blk_frozen BK132.out 1; have hfz9_2 := blk_frozen BK132.out 2; have hfz9_3 := blk_frozen BK132.out 3; have hfz9_4 := blk_frozen BK132.out 4; have hfz9_5 := blk_frozen BK132.out 5; have hfz9_6 := blk_frozen BK132.out 6; have hfz9_7 := blk_frozen BK132.out 7; have hfz9_8 := blk_frozen BK132.out 8))
          go_ret
          exact ⟨by first | rfl | (simp [errW_none, errW_some] <;> rfl) | (simp [*, errW_none, errW_some] <;> rfl), by repeat (first | (with_reducible first | exact HB.out | apply below_alloc | apply pw_below_drewN | apply below_drew1 | refine below_set ?_ GE132.out) | exact HB.out)⟩
        · rw [if_neg c7] at H
          exact absurd H (by simp)
    · rw [if_neg c3] at H
      have c3b0 : (a0_4.toList == ([] : List UInt8)) = false := beq_eq_false_iff_ne.mpr c3
      have c3b1 : (a0_4.toList != ([] : List UInt8)) = true := bne_iff_ne.mpr c3
      obtain rfl := Option.some.inj H
      go_enter Try.func113, Try.ntmps113
      go_wp2_with (first | ((with_reducible refine gate_dst (N := 1) rfl ?_); refine box_event ?hg (N := 1) ?hd (cs := #[.string a0_0, .string a0_1, .string a0_2, .bool true, .string a0_4, .string a0_5, .string a0_6, .string a0_7, .bool a0_8]) (t := 106) ?hr ?_; (case hd => rfl); (case hg => rfl); (case hr => first | (go_simp; done) | (go_simp; rfl)); intro gb132 hg w10 hbox hb; have n0_ := Aside0.mk (below_step (by repeat (first | (with_reducible first | exact HB.out | apply below_alloc | apply pw_below_drewN | apply below_drew1) | exact HB.out)) hb); have n1_ := Aside0.mk (hbox); have n2_ := Aside0.mk ((by rw [hg]; exact (below_size (by repeat (first | (with_reducible first | exact HB.out | apply below_alloc | apply pw_below_drewN | apply below_drew1) | exact HB.out))) : w.heap.size ≤ gb132)); have n3_ := Aside0.mk ((by rw [hg]; exact (below_size (by repeat (first | (with_reducible first | exact HB.out | apply below_alloc | apply pw_below_drewN | apply below_drew1) | exact HB.out))) : w.heap.size ≤ gb132)); clear HB; have HB := n0_; have BK132 := n1_; have GW132 := n2_; have GE132 := n3_; clear n0_ n1_ n2_ n3_; clear hb hbox hg; have hcz11_0 : w10.cell? ⟨gb132, 0, none⟩ = some (.string a0_0) := (blk_cell BK132.out 0).trans rfl; have hcz11_1 : w10.cell? ⟨gb132, 1, none⟩ = some (.string a0_1) := (blk_cell BK132.out 1).trans rfl; have hcz11_2 : w10.cell? ⟨gb132, 2, none⟩ = some (.string a0_2) := (blk_cell BK132.out 2).trans rfl; have hcz11_3 : w10.cell? ⟨gb132, 3, none⟩ = some (.bool true) := (blk_cell BK132.out 3).trans rfl; have hcz11_4 : w10.cell? ⟨gb132, 4, none⟩ = some (.string a0_4) := (blk_cell BK132.out 4).trans rfl; have hcz11_5 : w10.cell? ⟨gb132, 5, none⟩ = some (.string a0_5) := (blk_cell BK132.out 5).trans rfl; have hcz11_6 : w10.cell? ⟨gb132, 6, none⟩ = some (.string a0_6) := (blk_cell BK132.out 6).trans rfl; have hcz11_7 : w10.cell? ⟨gb132, 7, none⟩ = some (.string a0_7) := (blk_cell BK132.out 7).trans rfl; have hcz11_8 : w10.cell? ⟨gb132, 8, none⟩ = some (.bool a0_8) := (blk_cell BK132.out 8).trans rfl; have hfz11_0 := blk_frozen BK132.out 0; have hfz11_1 := blk_frozen BK132.out 1; have hfz11_2 := blk_frozen BK132.out 2; have hfz11_3 := blk_frozen BK132.out 3; have hfz11_4 := blk_frozen BK132.out 4; have hfz11_5 := blk_frozen BK132.out 5; have hfz11_6 := blk_frozen BK132.out 6; have hfz11_7 := blk_frozen BK132.out 7; have hfz11_8 := blk_frozen BK132.out 8))
      go_ret
      exact ⟨by first | rfl | (simp [errW_none, errW_some] <;> rfl) | (simp [*, errW_none, errW_some] <;> rfl), by repeat (first | (with_reducible first | exact HB.out | apply below_alloc | apply pw_below_drewN | apply below_drew1 | refine below_set ?_ GE132.out) | exact HB.out)⟩
  · replace c2 := Bool.eq_false_iff.mpr c2
    subst c2
    have H1 : (some false) = some r := by rw [if_neg (show ¬ (false = true) by decide)] at H; exact H
    clear H
    have H := H1
    clear H1
    obtain rfl := Option.some.inj H
    go_enter Try.func113, Try.ntmps113
    go_wp2_with (first | ((with_reducible refine gate_dst (N := 1) rfl ?_); refine box_event ?hg (N := 1) ?hd (cs := #[.string a0_0, .string a0_1, .string a0_2, .bool false, .string a0_4, .string a0_5, .string a0_6, .string a0_7, .bool a0_8]) (t := 106) ?hr ?_; (case hd => rfl); (case hg => rfl); (case hr => first | (go_simp; done) | (go_simp; rfl)); intro gb132 hg w12 hbox hb; have n0_ := Aside0.mk (below_step (by repeat (first | (with_reducible first | exact HB.out | apply below_alloc | apply pw_below_drewN | apply below_drew1) | exact HB.out)) hb); have n1_ := Aside0.mk (hbox); have n2_ := Aside0.mk ((by rw [hg]; exact (below_size (by repeat (first | (with_reducible first | exact HB.out | apply below_alloc | apply pw_below_drewN | apply below_drew1) | exact HB.out))) : w.heap.size ≤ gb132)); have n3_ := Aside0.mk ((by rw [hg]; exact (below_size (by repeat (first | (with_reducible first | exact HB.out | apply below_alloc | apply pw_below_drewN | apply below_drew1) | exact HB.out))) : w.heap.size ≤ gb132)); clear HB; have HB := n0_; have BK132 := n1_; have GW132 := n2_; have GE132 := n3_; clear n0_ n1_ n2_ n3_; clear hb hbox hg; have hcz13_0 : w12.cell? ⟨gb132, 0, none⟩ = some (.string a0_0) := (blk_cell BK132.out 0).trans rfl; have hcz13_1 : w12.cell? ⟨gb132, 1, none⟩ = some (.string a0_1) := (blk_cell BK132.out 1).trans rfl; have hcz13_2 : w12.cell? ⟨gb132, 2, none⟩ = some (.string a0_2) := (blk_cell BK132.out 2).trans rfl; have hcz13_3 : w12.cell? ⟨gb132, 3, none⟩ = some (.bool false) := (blk_cell BK132.out 3).trans rfl; have hcz13_4 : w12.cell? ⟨gb132, 4, none⟩ = some (.string a0_4) := (blk_cell BK132.out 4).trans rfl; have hcz13_5 : w12.cell? ⟨gb132, 5, none⟩ = some (.string a0_5) := (blk_cell BK132.out 5).trans rfl; have hcz13_6 : w12.cell? ⟨gb132, 6, none⟩ = some (.string a0_6) := (blk_cell BK132.out 6).trans rfl; have hcz13_7 : w12.cell? ⟨gb132, 7, none⟩ = some (.string a0_7) := (blk_cell BK132.out 7).trans rfl; have hcz13_8 : w12.cell? ⟨gb132, 8, none⟩ = some (.bool a0_8) := (blk_cell BK132.out 8).trans rfl; have hfz13_0 := blk_frozen BK132.out 0; have hfz13_1 := blk_frozen BK132.out 1; have hfz13_2 := blk_frozen BK132.out 2; have hfz13_3 := blk_frozen BK132.out 3; have hfz13_4 := blk_frozen BK132.out 4; have hfz13_5 := blk_frozen BK132.out 5; have hfz13_6 := blk_frozen BK132.out 6; have hfz13_7 := blk_frozen BK132.out 7; have hfz13_8 := blk_frozen BK132.out 8))
    go_ret
    exact ⟨by first | rfl | (simp [errW_none, errW_some] <;> rfl) | (simp [*, errW_none, errW_some] <;> rfl), by repeat (first | (with_reducible first | exact HB.out | apply below_alloc | apply pw_below_drewN | apply below_drew1 | refine below_set ?_ GE132.out) | exact HB.out)⟩
end Go.Proofs.Ytfiamddinkokbaa.F
end

section
set_option linter.unusedVariables false
set_option linter.unusedSimpArgs false
namespace Go.Proofs.Ytfiamddinkokbaa.F
open Go.RowKit Go.Proofs.YtfiamddinkokbaaW.PrintWords Go.Proofs.YtfiamddinkokbaaW.PrintLast Go.Proofs.YtfiamddinkokbaaW.PrintMore
attribute [local go_sem] max2_int min2_int max_two min_two max_three min_three max_four min_four
set_option linter.unusedVariables false
set_option linter.unusedSimpArgs false
def strings_Contains.f (a0 a1 : ByteArray) : Option Bool := if a1.size = 1 then some (decide (0 ≤ Lib.indexByte a0.data.toList (a1.data.toList.headD 0))) else none
theorem strings_Contains.calls (a0 : ByteArray) (a1 : ByteArray) (r : Bool) (w : World) (h : strings_Contains.f a0 a1 = some r) :
    Calls Try.prog 84 #[.string a0, .string a1] w fun e w' => e = .returned (.bool r) ∧ Drawn0 w w' := by
  exact ext_contains a0 a1 r w h
end Go.Proofs.Ytfiamddinkokbaa.F
end

section
set_option linter.unusedVariables false
set_option linter.unusedSimpArgs false
namespace Go.Proofs.Ytfiamddinkokbaa.F
open Go.RowKit Go.Proofs.YtfiamddinkokbaaW.PrintWords Go.Proofs.YtfiamddinkokbaaW.PrintLast Go.Proofs.YtfiamddinkokbaaW.PrintMore
attribute [local go_sem] max2_int min2_int max_two min_two max_three min_three max_four min_four
set_option linter.unusedVariables false
set_option linter.unusedSimpArgs false
def doc_Labels_Plain.f (a0_0 : ByteArray) (a0_1 : ByteArray) (a0_2 : ByteArray) : Option (Bool) := if a0_0.size + a0_1.size ≤ 9223372036854775807 then (if (a0_0 ++ a0_1).size + a0_2.size ≤ 9223372036854775807 then ((strings_Contains.f ((a0_0 ++ a0_1) ++ a0_2) (⟨#[10]⟩ : ByteArray)).bind fun t134 => (some (!t134))) else (none)) else (none)
set_option maxHeartbeats 8000000 in
set_option maxRecDepth 100000 in
theorem doc_Labels_Plain.calls (a0_0 : ByteArray) (a0_1 : ByteArray) (a0_2 : ByteArray) (r : Bool) (w : World) (h : doc_Labels_Plain.f a0_0 a0_1 a0_2 = some r) :
    Calls Try.prog 114 #[.agg #[.string a0_0, .string a0_1, .string a0_2]] w fun e w' => e = .returned (.bool r) ∧ Below w.heap.size w w' := by
  have hu84 := Try.underlying84
  have HB := Aside0.mk (Below.refl w.heap.size w)
  have H : (if a0_0.size + a0_1.size ≤ 9223372036854775807 then (if (a0_0 ++ a0_1).size + a0_2.size ≤ 9223372036854775807 then ((strings_Contains.f ((a0_0 ++ a0_1) ++ a0_2) (⟨#[10]⟩ : ByteArray)).bind fun t134 => (some (!t134))) else (none)) else (none)) = some r := h
  clear h
  by_cases c2 : a0_0.size + a0_1.size ≤ 9223372036854775807
  · rw [if_pos c2] at H
    have c2b0 := eq_true c2
    have c2b1 : decide (a0_0.size + a0_1.size ≤ 9223372036854775807) = true := decide_eq_true c2
    try have c2b2 : (9223372036854775807 < a0_0.size + a0_1.size) = False := eq_false (Nat.not_lt.2 c2)
    by_cases c3 : (a0_0 ++ a0_1).size + a0_2.size ≤ 9223372036854775807
    · rw [if_pos c3] at H
      have c3b0 := eq_true c3
      have c3b1 : decide ((a0_0 ++ a0_1).size + a0_2.size ≤ 9223372036854775807) = true := decide_eq_true c3
      try have c3b2 : (9223372036854775807 < (a0_0 ++ a0_1).size + a0_2.size) = False := eq_false (Nat.not_lt.2 c3)
      try have c3b3 : (9223372036854775807 < a0_0.size + a0_1.size + a0_2.size) = False := eq_false (Nat.not_lt.2 (Nat.le_trans (Nat.le_of_eq (by first | rfl | (simp only [ByteArray.size_append]; done) | (simp only [ByteArray.size_append]; rfl))) c3))
      replace H := Option.bind_eq_some_iff.mp H
      obtain ⟨t134, A40, H⟩ := H
      replace H : (some (!t134)) = some r := H
      have A4 := Aside0.mk A40
      clear A40
      obtain rfl := Option.some.inj H
      go_enter Try.func114, Try.ntmps114
      go_wp2_with (first | ((with_reducible refine gate_dst (N := 1) rfl ?_); refine box_event ?hg (N := 1) ?hd (cs := #[.string a0_0, .string a0_1, .string a0_2]) (t := 84) ?hr ?_; (case hd => rfl); (case hg => rfl); (case hr => first | (go_simp; done) | (go_simp; rfl)); intro gb133 hg w5 hbox hb; have n0_ := Aside0.mk (below_step (by repeat (first | (with_reducible first | exact HB.out | apply below_alloc | apply pw_below_drewN | apply below_drew1) | exact HB.out)) hb); have n1_ := Aside0.mk (hbox); have n2_ := Aside0.mk ((by rw [hg]; exact (below_size (by repeat (first | (with_reducible first | exact HB.out | apply below_alloc | apply pw_below_drewN | apply below_drew1) | exact HB.out))) : w.heap.size ≤ gb133)); have n3_ := Aside0.mk ((by rw [hg]; exact (below_size (by repeat (first | (with_reducible first | exact HB.out | apply below_alloc | apply pw_below_drewN | apply below_drew1) | exact HB.out))) : w.heap.size ≤ gb133)); clear HB; have HB := n0_; have BK133 := n1_; have GW133 := n2_; have GE133 := n3_; clear n0_ n1_ n2_ n3_; clear hb hbox hg; have hcz6_0 : w5.cell? ⟨gb133, 0, none⟩ = some (.string a0_0) := (blk_cell BK133.out 0).trans rfl; have hcz6_1 : w5.cell? ⟨gb133, 1, none⟩ = some (.string a0_1) := (blk_cell BK133.out 1).trans rfl; have hcz6_2 : w5.cell? ⟨gb133, 2, none⟩ = some (.string a0_2) := (blk_cell BK133.out 2).trans rfl; have hfz6_0 := blk_frozen BK133.out 0; have hfz6_1 := blk_frozen BK133.out 1; have hfz6_2 := blk_frozen BK133.out 2) | ((with_reducible refine gate_callee (f := 84) rfl ?_); refine goesL_ (some 11) rfl rfl Try.func84 (by kernel_rfl) rfl #[.string ((a0_0 ++ a0_1) ++ a0_2), .string (⟨#[10]⟩ : ByteArray)] rfl (by (try simp only [List.map_toArray, List.map_cons, List.map_nil]); first | done | rfl | (simp only [List.length_drop, List.length_take]; rfl)) ?_; (with_reducible refine (strings_Contains.calls ((a0_0 ++ a0_1) ++ a0_2) (⟨#[10]⟩ : ByteArray) t134 _ A4.out).mono ?_); rintro e w' ⟨rfl, ⟨nd, rfl⟩⟩; refine ⟨_, rfl, ?_⟩))
      go_ret
      exact ⟨by first | rfl | (simp [errW_none, errW_some] <;> rfl) | (simp [*, errW_none, errW_some] <;> rfl), by repeat (first | (with_reducible first | exact HB.out | apply below_alloc | apply pw_below_drewN | apply below_drew1 | refine below_set ?_ GE133.out) | exact HB.out)⟩
    · rw [if_neg c3] at H
      exact absurd H (by simp)
  · rw [if_neg c2] at H
    exact absurd H (by simp)
end Go.Proofs.Ytfiamddinkokbaa.F
end

section
set_option linter.unusedVariables false
set_option linter.unusedSimpArgs false
namespace Go.Proofs.Ytfiamddinkokbaa.F
open Go.RowKit Go.Proofs.YtfiamddinkokbaaW.PrintWords Go.Proofs.YtfiamddinkokbaaW.PrintLast Go.Proofs.YtfiamddinkokbaaW.PrintMore
attribute [local go_sem] max2_int min2_int max_two min_two max_three min_three max_four min_four
set_option linter.unusedVariables false
set_option linter.unusedSimpArgs false
def stringslite_HasSuffix.f (a0 : ByteArray) (a1 : ByteArray) : Option (Bool) := if (a0.size : Int) ≥ (a1.size : Int) then (if 0 ≤ (wrap64 ((a0.size : Int) - (a1.size : Int))) then (if (wrap64 ((a0.size : Int) - (a1.size : Int))) ≤ (a0.size : Int) then (some ((a0.extract ((wrap64 ((a0.size : Int) - (a1.size : Int))) : Int).toNat a0.size).toList == a1.toList)) else (none)) else (none)) else (some false)
set_option maxHeartbeats 8000000 in
set_option maxRecDepth 100000 in
theorem stringslite_HasSuffix.calls (a0 : ByteArray) (a1 : ByteArray) (r : Bool) (w : World) (h : stringslite_HasSuffix.f a0 a1 = some r) :
    Calls Try.prog 142 #[.string a0, .string a1] w fun e w' => e = .returned (.bool r) ∧ Drawn0 w w' := by
  have H : (if (a0.size : Int) ≥ (a1.size : Int) then (if 0 ≤ (wrap64 ((a0.size : Int) - (a1.size : Int))) then (if (wrap64 ((a0.size : Int) - (a1.size : Int))) ≤ (a0.size : Int) then (some ((a0.extract ((wrap64 ((a0.size : Int) - (a1.size : Int))) : Int).toNat a0.size).toList == a1.toList)) else (none)) else (none)) else (some false)) = some r := h
  clear h
  by_cases c3 : (a0.size : Int) ≥ (a1.size : Int)
  · rw [if_pos c3] at H
    have c3b0 : decide ((a1.size : Int) ≤ (a0.size : Int)) = true := decide_eq_true c3
    have c3b1 : decide (a1.size ≤ a0.size) = true := decide_eq_true (Int.ofNat_le.mp c3)
    clear c3
    obtain ⟨ji4, hji4⟩ : ∃ j_ : Int, (wrap64 ((a0.size : Int) - (a1.size : Int))) = j_ := ⟨_, rfl⟩
    replace H : (if 0 ≤ (ji4) then (if (ji4) ≤ (a0.size : Int) then (some ((a0.extract ((ji4) : Int).toNat a0.size).toList == a1.toList)) else (none)) else (none)) = some r := by first | (rw [hji4] at H; exact H) | (simp only [hji4] at H ⊢; exact H)
    have hji4w : (IntKind.i64.wrap ((a0.size : Int) - (a1.size : Int))) = ji4 := (i64_w _).trans hji4
    by_cases c5 : 0 ≤ (ji4)
    · rw [if_pos c5] at H
      have c5b0 := eq_true c5
      have c5b1 : decide (0 ≤ (ji4)) = true := decide_eq_true c5
      clear c5
      by_cases c6 : (ji4) ≤ (a0.size : Int)
      · rw [if_pos c6] at H
        have c6b0 := eq_true c6
        have c6b1 : decide ((ji4) ≤ (a0.size : Int)) = true := decide_eq_true c6
        clear c6
        obtain rfl := Option.some.inj H
        go_enter Try.func142, Try.ntmps142
        go_wp2
        go_ret
        exact ⟨by first | rfl | (simp; done) | (simp only [← hji4] <;> (first | rfl | simp)) | (simp [*]; done), by repeat (first | exact Drawn0.refl _ | apply Drawn0.step)⟩
      · rw [if_neg c6] at H
        exact absurd H (by simp)
    · rw [if_neg c5] at H
      exact absurd H (by simp)
  · rw [if_neg c3] at H
    have c3b0 : decide ((a1.size : Int) ≤ (a0.size : Int)) = false := decide_eq_false c3
    have c3b1 : decide (a1.size ≤ a0.size) = false := decide_eq_false (fun h => c3 (Int.ofNat_le.mpr h))
    clear c3
    obtain rfl := Option.some.inj H
    go_enter Try.func142, Try.ntmps142
    go_wp2
    go_ret
    exact ⟨by first | rfl | (simp; done) | (simp [*]; done), by repeat (first | exact Drawn0.refl _ | apply Drawn0.step)⟩
end Go.Proofs.Ytfiamddinkokbaa.F
end
