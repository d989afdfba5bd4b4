/- Texts joined into one file (wip/tools/pack.py): Range, Lines, Shelf -/
import Derived.RangeFuncBox
import Derived.RangeFuncLeaves
import Derived.Shelf.Abstract
import Derived.WalkKit
import Derived.OwnWalkIn
import Derived.Lib.IndexLaws
import Derived.Shelf.Strings.Builder1
import Derived.Shelf.Strings.Builder2
import Derived.Shelf.Strings.OnBuilder
import Derived.Shelf.Small.Strs
import Derived.Shelf.Small.Wraps
import Derived.Shelf.Strings.BuilderF
import Derived.Shelf.Strings.BuilderK
import Derived.Shelf.Strings.Builder2Cap
import Derived.Shelf.Strings.Search1
import Derived.Shelf.Strings.Search2
import Derived.Shelf.Strings.Search3
import Derived.Shelf.LaysM
import Derived.Shelf.Strings.Shaped
import Derived.Shelf.Strings.Prefix
import Derived.Shelf.Bits.Mul64
import Derived.Shelf.Strings.Repeat
import Derived.Shelf.Strings.BuilderCap
import Derived.Shelf.Slices.Equal
import Derived.Ground.Names2Prog
import Derived.Shelf.Slices.Clone
import Derived.Shelf.Slices.Empties2
import Derived.Test.YtfiamddinkokbaaProg
set_option linter.unusedVariables false
set_option linter.unusedSimpArgs false
section
namespace Go.Proofs.Ytfiamddinkokbaa
open Go.RowKit
def SeqCell {α : Type} (F : Fence) (n : Nat) (P : Program) (g : Nat) (lb : Array Value) (encs : α→Array Value) (B : Nat) (o : Obj) (S : List α→Prop) (N : Nat) : Prop :=
 ∀ (l:Nat) (J:List α→World→Prop) (W:World),W.heap[B]? = some o →
  (∀ s W v,J s W→J s (W.setCell ⟨B,0,none⟩ v))→(∀ s W,J s W→J s W.drew) →
  (∀ pre x W1,J pre W1→pre.length<N→YieldAt F (n-1) P l (encs x) W1 fun e W'=>e = .returned (.bool true)∧J (pre++[x]) W'∧W'.heap[B]? = W1.heap[B]?) →
  J [] W →
  CallsIn F n P g (#[.func (.yield l) #[] #[]]++lb) W fun e W'=>(∃ v,e = .returned v)∧∃ xs,S xs∧J xs W'
variable {F : Fence} {n : Nat} {P : Program}
theorem wpIn_rangeFunc_cell {α : Type} {g : Operand} {ps : Array Tmp} {assign body : Code} {Q : Exit→Act→World→Prop} {a : Act} {w : World}
  (hro:F.round=none) (h1:1≤n) {gf:Nat} {lb:Array Value} (hg:a.eval g = .func (.func gf) #[] lb) (hFg:F.fn gf) (eg:∀ args w,(callFunc gf args).run P w = .ok (.enter gf args) w)
  {encs:α→Array Value} {B:Nat} {o:Obj} {S:List α→Prop} {N:Nat} (hseq:SeqCell F (n-1) P gf lb encs B o S N)
  (hBo:w.heap[B]? = some o) (hps:∀ x,(encs x).size=ps.size)
  (I:List α→World→Prop) (hI:OwnFrom w.heap.size I) (hIB:∀ s W v,I s W→I s (W.setCell ⟨B,0,none⟩ v)) (hId:∀ s W,I s W→I s W.drew) (h0:I [] w) (a₁:α→Act)
  (hassign:∀ (l:Nat) (x:α) (W:World) (K:Act→World→Prop),K (a₁ x) W →
   assign.wpIn (F.inRound l) (n-1-1) P (Exit.then K (fun _ _ _=>False)) { tmps:=(ps.zip (encs x)).foldl (fun t (p,v)=>t.setIfInBounds p v) a.tmps,defers:=[] } W)
  (hbody:∀ (l:Nat) (pre:List α) (x:α) (W:World),I pre W→pre.length<N→body.wpIn (F.inRound l) (n-1-1) P
   (fun e _ W'=>e = .normal∧KeepsFrom w.heap.size W W'∧W'.heap[B]? = W.heap[B]?∧I (pre++[x]) W') (a₁ x) W)
  (hdone:∀ (D:Nat) (xs:List α) (W:World),w.heap.size≤D→S xs→I xs W→W.heap[D]? = some (.deferred (some []))→Q .normal { a with defers:={ target := .collected D,args:=#[] } :: a.defers } W) :
  (Code.rangeFunc g ps assign body).wpIn F n P Q a w:=by
 have hBlt:B<w.heap.size:=(Array.getElem?_eq_some_iff.1 hBo).1
 refine wpIn_rangeFunc ?_
 intro fn hfn
 rw [hro]
 obtain⟨rec,hrec⟩:∃ rec:LoopState→Option Code→Loop,rec=fun st pe=>{ state:=st,pending:=pe,fn,tmps:=a.tmps,params:=ps,assign,body,defers:=w.heap.size }:=⟨_,rfl⟩
 obtain⟨W1,hW1⟩:∃ W1,(w.alloc (.deferred (some []))).alloc (.loop (rec .ready none))=W1:=⟨_,rfl⟩
 have hL1:W1.heap[w.heap.size+1]? = some (.loop (rec .ready none)):=by
  rw [←hW1];have:=World.alloc_heap_new (w.alloc (.deferred (some []))) (.loop (rec .ready none));rwa [World.size_alloc] at this
 have hK1:W1.heap[w.heap.size]? = some (.deferred (some [])):=by
  rw [←hW1];exact (Below.heap_alloc _ _ _ (by simp)).trans (World.alloc_heap_new w _)
 have hB1:W1.heap[B]? = some o:=by
  rw [←hW1,Below.heap_alloc _ _ _ (by simp;omega),Below.heap_alloc _ _ _ (by omega)];exact hBo
 have hI1:I [] W1:=by rw [←hW1];exact hI.alloc _ (hI.alloc _ h0)
 refine⟨w.heap.size+1,[{ target := .collected w.heap.size,args:=#[] }],W1,{ target := .fn (.func gf) lb,args:=#[.func (.yield (w.heap.size+1)) #[] #[]] },W1,gf,
  #[.func (.yield (w.heap.size+1)) #[] #[]]++lb,W1,?_,?_,?_,?_,fun _=>h1,?_⟩
 ·rw [←hW1,hrec];exact run_enterLoop_outer _ _ _ _ _
 ·simp only [resolve,hg]
  simp [go_sem]
 ·intro f' hf';simp [Target.leads] at hf';subst hf';exact hFg
 ·simp [invoke,go_sem,eg]
 ·refine (hseq (w.heap.size+1)
   (fun pre W=>I pre W∧W.heap[w.heap.size+1]? = some (.loop (rec .ready none))∧W.heap[w.heap.size]? = some (.deferred (some [])))
   W1 hB1
   (fun s A v hs=>⟨hIB s A v hs.1,(Below.heap_setCell _ _ _ _ (by simp;omega)).trans hs.2.1,(Below.heap_setCell _ _ _ _ (by simp;omega)).trans hs.2.2⟩)
   (fun s A hs=>⟨hId s A hs.1,hs.2.1,hs.2.2⟩)
   ?_ ⟨hI1,hL1,hK1⟩).mono ?_
  ·rintro pre x W ⟨hi,hl,hk⟩ hlen
   have hlt:w.heap.size+1<W.heap.size:=(Array.getElem?_eq_some_iff.1 hl).1
   have hy:=run_yield (P:=P) (args:=encs x) hl (by rw [hrec];exact hps x)
   rw [hrec] at hy
   refine⟨fn,_,assign,body,hy,roundIn_of_wpIn hfn (hassign _ x W _ ⟨_,run_beginRound hl (by rw [hrec]),?_⟩)⟩
   have hl2:(W.putObj (w.heap.size+1) (.loop { rec .ready none with state := .busy })).heap[w.heap.size+1]? = some (.loop { rec .ready none with state := .busy }):=World.putObj_heap_same hlt
   have hk2:(W.putObj (w.heap.size+1) (.loop { rec .ready none with state := .busy })).heap[w.heap.size]? = some (.deferred (some [])):=(World.putObj_heap_other (by omega)).trans hk
   have hb2:(W.putObj (w.heap.size+1) (.loop { rec .ready none with state := .busy })).heap[B]? = W.heap[B]?:=World.putObj_heap_other (by omega)
   refine wpIn_mono (hbody _ pre x _ (hI.putObj _ hi (by omega) hl rfl) hlen) ?_
   rintro e a3 W3 ⟨rfl,hk3,hb3,hi3⟩
   have hl3:=hk3.same _ _ (by omega) hl2 rfl
   have hre:=run_endRound (P:=P) none hl3
   rw [hrec] at hre ⊢
   rw [hrec] at hl3 hl2 hk2 hk3
   refine⟨_,_,hre,rfl,⟨hI.putObj _ hi3 (by omega) hl3 rfl,World.putObj_heap_same (Array.getElem?_eq_some_iff.1 hl3).1,(World.putObj_heap_other (by omega)).trans (hk3.same _ _ (Nat.le_refl _) hk2 rfl)⟩,?_⟩
   exact (World.putObj_heap_other (by omega)).trans (hb3.trans hb2)
  ·rintro e W2 ⟨⟨v,rfl⟩,xs,hS,hi,hl,hk⟩
   exact⟨none,_,by have:=run_endLoop (P:=P) hl (by rw [hrec];simp);rw [hrec] at this;exact this,hdone _ xs _ (Nat.le_refl _) hS (hI.putObj _ hi (by omega) hl rfl) ((World.putObj_heap_other (by omega)).trans hk)⟩
end Go.Proofs.Ytfiamddinkokbaa
end

section
namespace Go.Proofs.Ytfiamddinkokbaa
open Go
def splitL : List UInt8→List (List UInt8)
 | []=>[]
 | c::t=>if c=10 then [10]::splitL t else match splitL t with
  | []=>[[c]]
  | l::r=>(c::l)::r
def takeLine : List UInt8→List UInt8
 | []=>[]
 | c::t=>if c=10 then [10] else c::takeLine t
def dropLine : List UInt8→List UInt8
 | []=>[]
 | c::t=>if c=10 then t else dropLine t
theorem splitL_nil_iff : ∀ l : List UInt8,splitL l=[]↔l=[]
 | []=>by simp [splitL]
 | c::t=>by
  simp only [splitL]
  split
  ·simp
  ·split<;>simp
theorem splitL_next : ∀ l : List UInt8,l≠[]→splitL l=takeLine l::splitL (dropLine l)
 | [],h=>absurd rfl h
 | c::t,_=>by
  by_cases hc:c=10
  ·simp [splitL,takeLine,dropLine,hc]
  ·simp only [splitL,takeLine,dropLine,hc,if_false]
   by_cases ht:t=[]
   ·subst ht;simp [splitL,takeLine,dropLine]
   ·rw [splitL_next t ht]
theorem take_drop_line : ∀ l : List UInt8,takeLine l++dropLine l=l
 | []=>rfl
 | c::t=>by
  by_cases hc:c=10
  ·simp [takeLine,dropLine,hc]
  ·simp [takeLine,dropLine,hc,take_drop_line t]
theorem line_of_some : ∀ (l : List UInt8) (o : Nat),Lib.indexByte l 10=o→takeLine l=l.take (o+1)∧dropLine l=l.drop (o+1)
 | [],o,h=>by
  have:=(Lib.indexByte_some h).1
  simp at this
 | c::t,o,h=>by
  obtain⟨h1,h2⟩:=Lib.indexByte_some h
  by_cases hc:c=10
  ·have:o=0:=by
    rcases Nat.eq_zero_or_pos o with h0|h0
    ·exact h0
    ·exact absurd (by simp [hc]) (h2 0 h0)
   subst this
   simp [takeLine,dropLine,hc]
  ·cases o with
   | zero=>simp at h1;exact absurd h1 hc
   | succ o =>
    have ih:=line_of_some t o (by
     simp only [Lib.indexByte,beq_iff_eq,if_neg hc] at h
     split at h<;>omega)
    simp [takeLine,dropLine,hc,ih.1,ih.2]
theorem line_of_none : ∀ (l : List UInt8),Lib.indexByte l 10 = -1→takeLine l=l∧dropLine l=[]
 | [],_=>⟨rfl,rfl⟩
 | c::t,h=>by
  have hn:=Lib.indexByte_none h
  have hc:c≠10:=fun e=>hn 0 (by simp [e])
  have ih:=line_of_none t (by
   have hg:=Lib.indexByte_ge t 10
   rcases Int.lt_or_le (Lib.indexByte t 10) 0 with h0|h0
   ·omega
   ·obtain⟨o,ho⟩:=Int.eq_ofNat_of_zero_le h0
    exact absurd (Lib.indexByte_some ho).1 (by have:=hn (o+1);simpa using this))
  simp [takeLine,dropLine,hc,ih.1,ih.2]
def toB (l : List UInt8) : ByteArray := ⟨l.toArray⟩
def splitB (s : ByteArray) : List ByteArray := (splitL s.data.toList).map toB
theorem toB_data (s : ByteArray) : toB s.data.toList=s := by cases s;simp [toB]
@[simp] theorem toB_size (l : List UInt8) : (toB l).size=l.length := by simp [toB,ByteArray.size]
@[simp] theorem data_toB (l : List UInt8) : (toB l).data.toList=l := by simp [toB]
theorem splitL_length_le : ∀ l : List UInt8,(splitL l).length≤l.length
 | []=>by simp [splitL]
 | c::t=>by
  have ih:=splitL_length_le t
  simp only [splitL]
  split
  ·simpa using ih
  ·split
   ·simp
   ·rename_i h;rw [h] at ih;simp at ih ⊢;omega
end Go.Proofs.Ytfiamddinkokbaa
end

section
namespace Go.Proofs
open Go.Shelf
def Try.lays156_ren : Go.Shelf.Ren := ⟨fun|156=>81|165=>121|166=>87|169=>89|240=>123|241=>145|276=>149|277=>161|n=>n,fun|31=>36|9=>9|3=>3|4=>4|0=>0|20=>20|72=>127|76=>132|70=>124|37=>125|75=>131|127=>165|164=>184|5=>5|80=>135|n=>n,fun|n=>n⟩
theorem Try.lays156 : Go.Proofs.Lays.n156 Try.prog Try.lays156_ren := {
 mixed:=by kernel_rfl
 f156:=Try.func81.trans (congrArg some (by kernel_rfl))
 f165:=Try.func121.trans (congrArg some (by kernel_rfl))
 f166:=Try.func87.trans (congrArg some (by kernel_rfl))
 f169:=Try.func89.trans (congrArg some (by kernel_rfl))
 f240:=Try.func123.trans (congrArg some (by kernel_rfl))
 f241:=Try.func145.trans (congrArg some (by kernel_rfl))
 f276:=Try.func149.trans (congrArg some (by kernel_rfl))
 f277:=Try.func161.trans (congrArg some (by kernel_rfl))
 t0:=Try.underlying0
 a0:=Try.isAgg0
 z0:=Try.sizeOf0
 v0:=Try.zeroValue0
 t3:=Try.underlying3
 a3:=Try.isAgg3
 z3:=Try.sizeOf3
 v3:=Try.zeroValue3
 t4:=Try.underlying4
 a4:=Try.isAgg4
 z4:=Try.sizeOf4
 v4:=Try.zeroValue4
 t9:=Try.underlying9
 a9:=Try.isAgg9
 z9:=Try.sizeOf9
 v9:=Try.zeroValue9
 t20:=Try.underlying20
 a20:=Try.isAgg20
 z20:=Try.sizeOf20
 v20:=Try.zeroValue20
 t31:=Try.underlying36
 a31:=Try.isAgg36
 z31:=Try.sizeOf36
 v31:=Try.zeroValue36
 t37:=Try.underlying125
 a37:=Try.isAgg125
 z37:=Try.sizeOf125
 v37:=Try.zeroValue125
 t70:=Try.underlying124
 a70:=Try.isAgg124
 z70:=Try.sizeOf124
 v70:=Try.zeroValue124
 t72:=Try.underlying127
 a72:=Try.isAgg127
 z72:=Try.sizeOf127
 v72:=Try.zeroValue127
 t75:=Try.underlying131
 a75:=Try.isAgg131
 z75:=Try.sizeOf131
 v75:=Try.zeroValue131
 t76:=Try.underlying132
 a76:=Try.isAgg132
 z76:=Try.sizeOf132
 v76:=Try.zeroValue132
 t127:=Try.underlying165
 a127:=Try.isAgg165
 z127:=Try.sizeOf165
 v127:=Try.zeroValue165
 t164:=Try.underlying184
 a164:=Try.isAgg184
 z164:=Try.sizeOf184
 v164:=Try.zeroValue184 }
theorem Try.Builder_Extra_156 : Builder.Extra Try.prog Try.lays156_ren := {
 sizeBuilder:=by kernel_rfl
 liesBuilder:=by kernel_rfl
 t5:=Try.underlying5
 a5:=Try.isAgg5
 z5:=Try.sizeOf5
 v5:=Try.zeroValue5
 infoByte:=by kernel_rfl
 cellsByte:=by kernel_rfl
 sizeByte:=by kernel_rfl
 neB5:=by decide }
open Go.RowKit in
theorem Try.strings_Join_none (a : Option Addr) (c : Nat) (sep : ByteArray) (w : World) :
  Calls Try.prog 81 #[.slice a 0 c,.string sep] w fun e w'=>e = .returned (.string ⟨#[]⟩)∧w'=w:=Any.strings_Join_none Try.lays156 Try.Builder_Extra_156 a c sep w
open Go.RowKit in
theorem Try.strings_Join (bk o c : Nat) (xs : List ByteArray) (sep : ByteArray) (w : World) (hcells : ∀ (j : Nat) x,xs[j]? = some x→w.cell? ⟨bk,o+j,none⟩=some (.string x)) (hbk : bk<w.heap.size) (hN : xs.length≤140737488355328) (hcap : xs.length≤c) (hlen : (Lib.join (xs.map (·.data.toList)) sep.data.toList).length≤140737488355328) :
  Calls Try.prog 81 #[.slice (some ⟨bk,o,none⟩) xs.length c,.string sep] w fun e w'=>e = .returned (.string ⟨(Lib.join (xs.map (·.data.toList)) sep.data.toList).toArray⟩)∧Below w.heap.size w w':=Any.strings_Join Try.lays156 Try.Builder_Extra_156 bk o c xs sep w hcells hbk hN hcap hlen
def Try.lays137_ren : Go.Shelf.Ren := ⟨fun|137=>120|217=>144|266=>160|n=>n,fun|9=>9|5=>5|3=>3|n=>n,fun|n=>n⟩
theorem Try.lays137 : Go.Proofs.Lays.n137 Try.prog Try.lays137_ren := {
 mixed:=by kernel_rfl
 f137:=Try.func120.trans (congrArg some (by kernel_rfl))
 f217:=Try.func144.trans (congrArg some (by kernel_rfl))
 f266:=Try.func160.trans (congrArg some (by kernel_rfl))
 t3:=Try.underlying3
 a3:=Try.isAgg3
 z3:=Try.sizeOf3
 v3:=Try.zeroValue3
 t5:=Try.underlying5
 a5:=Try.isAgg5
 z5:=Try.sizeOf5
 v5:=Try.zeroValue5
 t9:=Try.underlying9
 a9:=Try.isAgg9
 z9:=Try.sizeOf9
 v9:=Try.zeroValue9 }
open Go.RowKit in
theorem Try.strings_IndexByte (s : ByteArray) (c : Int) (w : World) :
  Calls Try.prog 120 #[.string s,.int .u8 c] w fun e w'=>e = .returned (.int .i64 (Lib.indexByte s.data.toList c.toNat.toUInt8))∧w'=w:=Any.strings_IndexByte Try.lays137 s c w
def Try.lays144_ren : Go.Shelf.Ren := ⟨fun|144=>84|143=>82|219=>122|217=>144|225=>146|224=>147|267=>148|266=>160|314=>162|n=>n,fun|9=>9|4=>4|3=>3|5=>5|46=>183|146=>200|51=>199|n=>n,fun|1=>0|n=>n⟩
theorem Try.lays144 : Go.Proofs.Lays.n144 Try.prog Try.lays144_ren := {
 mixed:=by kernel_rfl
 f143:=Try.func82.trans (congrArg some (by kernel_rfl))
 f144:=Try.func84.trans (congrArg some (by kernel_rfl))
 f217:=Try.func144.trans (congrArg some (by kernel_rfl))
 f219:=Try.func122.trans (congrArg some (by kernel_rfl))
 f224:=Try.func147.trans (congrArg some (by kernel_rfl))
 f225:=Try.func146.trans (congrArg some (by kernel_rfl))
 f266:=Try.func160.trans (congrArg some (by kernel_rfl))
 f267:=Try.func148.trans (congrArg some (by kernel_rfl))
 f314:=Try.func162.trans (congrArg some (by kernel_rfl))
 t3:=Try.underlying3
 a3:=Try.isAgg3
 z3:=Try.sizeOf3
 v3:=Try.zeroValue3
 t4:=Try.underlying4
 a4:=Try.isAgg4
 z4:=Try.sizeOf4
 v4:=Try.zeroValue4
 t5:=Try.underlying5
 a5:=Try.isAgg5
 z5:=Try.sizeOf5
 v5:=Try.zeroValue5
 t9:=Try.underlying9
 a9:=Try.isAgg9
 z9:=Try.sizeOf9
 v9:=Try.zeroValue9
 t46:=Try.underlying183
 a46:=Try.isAgg183
 z46:=Try.sizeOf183
 v46:=Try.zeroValue183
 t51:=Try.underlying199
 a51:=Try.isAgg199
 z51:=Try.sizeOf199
 v51:=Try.zeroValue199
 t146:=Try.underlying200
 a146:=Try.isAgg200
 z146:=Try.sizeOf200
 v146:=Try.zeroValue200
 g1:=by kernel_rfl }
open Go.RowKit Go.Lib in
theorem Try.strings_Contains_one (s : ByteArray) (c : UInt8) (w : World) :
  Calls Try.prog 84 #[.string s,.string ⟨#[c]⟩] w fun e w'=>e = .returned (.bool (decide (0≤Lib.indexByte s.data.toList c)))∧w'=w:=Any.strings_Contains_one Try.lays144 s c w
open Go.RowKit Go.Lib in
theorem Try.strings_Contains (s sub : ByteArray) (m : Int) (w : World) (hs : s.size<4294967281) (hm : w.cell? ⟨0,0,none⟩=some (.int .i64 m)) :
  Calls Try.prog 84 #[.string s,.string sub] w fun e w'=>e = .returned (.bool (Lib.contains s.data.toList sub.data.toList))∧w'=w:=Any.strings_Contains Try.lays144 s sub m w hs hm
def Try.lays207_ren : Go.Shelf.Ren := ⟨fun|207=>142|n=>n,fun|9=>9|4=>4|3=>3|n=>n,fun|n=>n⟩
theorem Try.lays207 : Go.Proofs.Lays.n207 Try.prog Try.lays207_ren := {
 mixed:=by kernel_rfl
 f207:=Try.func142.trans (congrArg some (by kernel_rfl))
 t3:=Try.underlying3
 a3:=Try.isAgg3
 z3:=Try.sizeOf3
 v3:=Try.zeroValue3
 t4:=Try.underlying4
 a4:=Try.isAgg4
 z4:=Try.sizeOf4
 v4:=Try.zeroValue4
 t9:=Try.underlying9
 a9:=Try.isAgg9
 z9:=Try.sizeOf9
 v9:=Try.zeroValue9 }
open Go.RowKit Go.Lib in
theorem Try.stringslite_HasSuffix (s p : ByteArray) (w : World) (hs : s.size≤9223372036854775807) :
  Calls Try.prog 142 #[.string s,.string p] w fun e w'=>e = .returned (.bool (Lib.hasSuffix s.data.toList p.data.toList))∧w'=w:=Any.stringslite_HasSuffix Try.lays207 s p w hs
def Try.lays100_ren : Go.Shelf.Ren := ⟨fun|100=>115|207=>142|n=>n,fun|9=>9|4=>4|3=>3|n=>n,fun|n=>n⟩
theorem Try.lays100 : Go.Proofs.Lays.n100 Try.prog Try.lays100_ren := {
 mixed:=by kernel_rfl
 f100:=Try.func115.trans (congrArg some (by kernel_rfl))
 f207:=Try.func142.trans (congrArg some (by kernel_rfl))
 t3:=Try.underlying3
 a3:=Try.isAgg3
 z3:=Try.sizeOf3
 v3:=Try.zeroValue3
 t4:=Try.underlying4
 a4:=Try.isAgg4
 z4:=Try.sizeOf4
 v4:=Try.zeroValue4
 t9:=Try.underlying9
 a9:=Try.isAgg9
 z9:=Try.sizeOf9
 v9:=Try.zeroValue9 }
open Go.RowKit Go.Lib in
theorem Try.strings_HasSuffix (s p : ByteArray) (w : World) (hs : s.size≤9223372036854775807) :
  Calls Try.prog 115 #[.string s,.string p] w fun e w'=>e = .returned (.bool (Lib.hasSuffix s.data.toList p.data.toList))∧w'=w:=Any.strings_HasSuffix Try.lays100 s p w hs
def Try.lays212_ren : Go.Shelf.Ren := ⟨fun|212=>151|263=>163|264=>164|n=>n,fun|46=>183|51=>199|146=>200|53=>95|148=>203|n=>n,fun|n=>n⟩
theorem Try.lays212 : Go.Proofs.Lays.n212 Try.prog Try.lays212_ren := {
 mixed:=by kernel_rfl
 f212:=Try.func151.trans (congrArg some (by kernel_rfl))
 f263:=Try.func163.trans (congrArg some (by kernel_rfl))
 f264:=Try.func164.trans (congrArg some (by kernel_rfl))
 t46:=Try.underlying183
 a46:=Try.isAgg183
 z46:=Try.sizeOf183
 v46:=Try.zeroValue183
 t51:=Try.underlying199
 a51:=Try.isAgg199
 z51:=Try.sizeOf199
 v51:=Try.zeroValue199
 t53:=Try.underlying95
 a53:=Try.isAgg95
 z53:=Try.sizeOf95
 v53:=Try.zeroValue95
 t146:=Try.underlying200
 a146:=Try.isAgg200
 z146:=Try.sizeOf200
 v146:=Try.zeroValue200
 t148:=Try.underlying203
 a148:=Try.isAgg203
 z148:=Try.sizeOf203
 v148:=Try.zeroValue203 }
open Go.RowKit Go.Lib in
theorem Try.bits_Mul (x y : Nat) (hx : x<18446744073709551616) (hy : y<18446744073709551616) (w : World) :
  Calls Try.prog 151 #[.int .u64 x,.int .u64 y] w fun e w'=>e = .returned (.tuple #[.int .u64 ((x*y / 18446744073709551616:Nat):Int),.int .u64 ((x*y % 18446744073709551616:Nat):Int)])∧w'=w:=Any.bits_Mul Try.lays212 x y hx hy w
def Try.lays105_ren : Go.Shelf.Ren := ⟨fun|105=>129|212=>151|99=>152|165=>121|166=>87|170=>153|169=>89|263=>163|264=>164|206=>154|240=>123|241=>145|276=>149|277=>161|n=>n,fun|9=>9|3=>3|4=>4|20=>20|0=>0|46=>183|109=>186|5=>5|72=>127|76=>132|51=>199|146=>200|53=>95|148=>203|70=>124|37=>125|75=>131|127=>165|164=>184|80=>135|n=>n,fun|n=>n⟩
theorem Try.lays105 : Go.Proofs.Lays.n105 Try.prog Try.lays105_ren := {
 mixed:=by kernel_rfl
 f99:=Try.func152.trans (congrArg some (by kernel_rfl))
 f105:=Try.func129.trans (congrArg some (by kernel_rfl))
 f165:=Try.func121.trans (congrArg some (by kernel_rfl))
 f166:=Try.func87.trans (congrArg some (by kernel_rfl))
 f169:=Try.func89.trans (congrArg some (by kernel_rfl))
 f170:=Try.func153.trans (congrArg some (by kernel_rfl))
 f206:=Try.func154.trans (congrArg some (by kernel_rfl))
 f212:=Try.func151.trans (congrArg some (by kernel_rfl))
 f240:=Try.func123.trans (congrArg some (by kernel_rfl))
 f241:=Try.func145.trans (congrArg some (by kernel_rfl))
 f263:=Try.func163.trans (congrArg some (by kernel_rfl))
 f264:=Try.func164.trans (congrArg some (by kernel_rfl))
 f276:=Try.func149.trans (congrArg some (by kernel_rfl))
 f277:=Try.func161.trans (congrArg some (by kernel_rfl))
 t0:=Try.underlying0
 a0:=Try.isAgg0
 z0:=Try.sizeOf0
 v0:=Try.zeroValue0
 t3:=Try.underlying3
 a3:=Try.isAgg3
 z3:=Try.sizeOf3
 v3:=Try.zeroValue3
 t4:=Try.underlying4
 a4:=Try.isAgg4
 z4:=Try.sizeOf4
 v4:=Try.zeroValue4
 t5:=Try.underlying5
 a5:=Try.isAgg5
 z5:=Try.sizeOf5
 v5:=Try.zeroValue5
 t9:=Try.underlying9
 a9:=Try.isAgg9
 z9:=Try.sizeOf9
 v9:=Try.zeroValue9
 t20:=Try.underlying20
 a20:=Try.isAgg20
 z20:=Try.sizeOf20
 v20:=Try.zeroValue20
 t37:=Try.underlying125
 a37:=Try.isAgg125
 z37:=Try.sizeOf125
 v37:=Try.zeroValue125
 t46:=Try.underlying183
 a46:=Try.isAgg183
 z46:=Try.sizeOf183
 v46:=Try.zeroValue183
 t51:=Try.underlying199
 a51:=Try.isAgg199
 z51:=Try.sizeOf199
 v51:=Try.zeroValue199
 t53:=Try.underlying95
 a53:=Try.isAgg95
 z53:=Try.sizeOf95
 v53:=Try.zeroValue95
 t70:=Try.underlying124
 a70:=Try.isAgg124
 z70:=Try.sizeOf124
 v70:=Try.zeroValue124
 t72:=Try.underlying127
 a72:=Try.isAgg127
 z72:=Try.sizeOf127
 v72:=Try.zeroValue127
 t75:=Try.underlying131
 a75:=Try.isAgg131
 z75:=Try.sizeOf131
 v75:=Try.zeroValue131
 t76:=Try.underlying132
 a76:=Try.isAgg132
 z76:=Try.sizeOf132
 v76:=Try.zeroValue132
 t109:=Try.underlying186
 a109:=Try.isAgg186
 z109:=Try.sizeOf186
 v109:=Try.zeroValue186
 t127:=Try.underlying165
 a127:=Try.isAgg165
 z127:=Try.sizeOf165
 v127:=Try.zeroValue165
 t146:=Try.underlying200
 a146:=Try.isAgg200
 z146:=Try.sizeOf200
 v146:=Try.zeroValue200
 t148:=Try.underlying203
 a148:=Try.isAgg203
 z148:=Try.sizeOf203
 v148:=Try.zeroValue203
 t164:=Try.underlying184
 a164:=Try.isAgg184
 z164:=Try.sizeOf184
 v164:=Try.zeroValue184 }
theorem Try.Builder_Extra_105 : Builder.Extra Try.prog Try.lays105_ren := {
 sizeBuilder:=by kernel_rfl
 liesBuilder:=by kernel_rfl
 t5:=Try.underlying5
 a5:=Try.isAgg5
 z5:=Try.sizeOf5
 v5:=Try.zeroValue5
 infoByte:=by kernel_rfl
 cellsByte:=by kernel_rfl
 sizeByte:=by kernel_rfl
 neB5:=by decide }
open Go.RowKit Go.Lib in
theorem Try.strings_Repeat (s : ByteArray) (c : Nat) (w : World) (hc : c≤9223372036854775807) (hlen : s.size*c≤140737488355328) :
  Calls Try.prog 129 #[.string s,.int .i64 c] w fun e w'=>e = .returned (.string ⟨(Lib.repeatL s.data.toList c).toArray⟩)∧Below w.heap.size w w':=Any.strings_Repeat Try.lays105 Try.Builder_Extra_105 s c w hc hlen
def Try.laysNm216_ren : Go.Shelf.Ren := ⟨fun|16=>108|n=>n,fun|24=>36|9=>9|4=>4|n=>n,fun|n=>n⟩
theorem Try.laysNm216 : Go.Proofs.Lays2.n16 Try.prog Try.laysNm216_ren := {
 mixed:=by kernel_rfl
 f16:=Try.func108.trans (congrArg some (by kernel_rfl))
 t4:=Try.underlying4
 a4:=Try.isAgg4
 z4:=Try.sizeOf4
 v4:=Try.zeroValue4
 t9:=Try.underlying9
 a9:=Try.isAgg9
 z9:=Try.sizeOf9
 v9:=Try.zeroValue9
 t24:=Try.underlying36
 a24:=Try.isAgg36
 z24:=Try.sizeOf36
 v24:=Try.zeroValue36
 i9:=by kernel_rfl }
open Go.RowKit Go.Lib in
theorem Try.slices_Clone_string (b off n c : Nat) (zs : List ByteArray) (w : World) (hz : n≤zs.length) (hbig : n*16≤140737488355328) (hc : ∀ j,j<zs.length→w.cell? ⟨b,off+j,none⟩=some (.string (zs.getD j ByteArray.empty))) :
  Calls Try.prog 108 #[.slice (some ⟨b,off,none⟩) n c] w fun e w'=>∃ v',e = .returned v'∧w'.ownsRow w.heap.size 9 1 v' n ((zs.take n).map (Value.string))∧v' ≠ .slice none 0 0∧Below w.heap.size w w':=Any.slices_Clone_string Try.laysNm216 b off n c zs w hz hbig hc
open Go.RowKit Go.Lib in
theorem Try.slices_Clone_string_nil (n c : Nat) (w : World) :
  Calls Try.prog 108 #[.slice none n c] w fun e w'=>e = .returned (.slice none 0 0)∧w'=w:=Any.slices_Clone_string_nil Try.laysNm216 n c w
open Go.RowKit Go.Lib in
theorem Try.slices_Clone_string_zero (a : Addr) (c : Nat) (w : World) :
  Calls Try.prog 108 #[.slice (some a) 0 c] w fun e w'=>∃ v',e = .returned v'∧w'.ownsRow w.heap.size 9 1 v' 0 []∧v' ≠ .slice none 0 0∧Below w.heap.size w w':=Any.slices_Clone_string_zero Try.laysNm216 a c w
end Go.Proofs
end
