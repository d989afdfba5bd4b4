/- Texts joined into one file (wip/tools/pack.py): Range, Lines, Shelf, Split, Run, Ext, Number, F0 -/
import Derived.RangeFuncBox
import Derived.RangeFuncLeaves
import Derived.Shelf.Abstract
import Derived.WalkKit
import Derived.OwnWalkIn
import Derived.Lib.IndexLaws
import Derived.Shelf.Strings.Builder1
import Derived.Shelf.Strings.Builder2
import Derived.Shelf.Strings.OnBuilder
import Derived.Shelf.Small.Strs
import Derived.Shelf.Small.Wraps
import Derived.Shelf.Strings.BuilderF
import Derived.Shelf.Strings.BuilderK
import Derived.Shelf.Strings.Builder2Cap
import Derived.Shelf.Strings.Search1
import Derived.Shelf.Strings.Search2
import Derived.Shelf.Strings.Search3
import Derived.Shelf.LaysM
import Derived.Shelf.Strings.Shaped
import Derived.Shelf.Strings.Prefix
import Derived.Shelf.Bits.Mul64
import Derived.Shelf.Strings.Repeat
import Derived.Shelf.Strings.BuilderCap
import Derived.Shelf.Slices.Equal
import Derived.Ground.Names2Prog
import Derived.Shelf.Slices.Clone
import Derived.Shelf.Slices.Empties2
import Derived.Ground.SlgnProg
import Derived.Shelf.SlicesE.Clone
import Derived.Test.YtfiamddinkokbaaGreatProg
import Derived.Test.YtfiamddinkokbaaGreatTBWords2
import Derived.TacticsInMore
import Derived.LoopNIn
import Derived.LoopIn
import Derived.Maps.AppendAt
import Derived.StillTailTactics
import Derived.Lib.Hide
import Derived.Outline
import Derived.Lib.OthersKept
import Derived.Maps.Own
import Derived.Maps.OwnOps
import Derived.Maps.OwnSet
import Derived.Below
import Derived.Deep.Draws
import Derived.Deep.AppendLies
import Derived.OwnWalk
import Derived.Laws.BytesArg
import Derived.Laws.MakeOwn
import Derived.Laws.OwnMore
import Derived.Deep.OwnRows
import Derived.Tactics
import Derived.Lib.ConvBytes
import Derived.Laws.Slices
import Derived.KernelRfl
import Derived.RowKit3
import Derived.Deep.LoopGhost
import Derived.Deep.QuietTactic
import Derived.BigQuiet
import Derived.WideLaws
import Derived.Deep.DeepCutAuto
import Derived.Deep.CutBlock
import Derived.Deep.RegionHeld3
import Derived.Laws.Rows
import Derived.Lib.AppendStr
import Derived.ArgAppend
import Derived.Laws.IdiomCopy
import Derived.OrdersHeld
import Derived.Laws.BitsLemmas
import Derived.RowKit
import Derived.Test.YtfiamddinkokbaaGreatTBWords1
set_option linter.unusedVariables false
set_option linter.unusedSimpArgs false
section
namespace Go.Proofs.YtfiamddinkokbaaGreat
open Go.RowKit
def SeqCell {α : Type} (F : Fence) (n : Nat) (P : Program) (g : Nat) (lb : Array Value) (encs : α→Array Value) (B : Nat) (o : Obj) (S : List α→Prop) (N : Nat) : Prop :=
 ∀ (l:Nat) (J:List α→World→Prop) (W:World),W.heap[B]? = some o →
  (∀ s W v,J s W→J s (W.setCell ⟨B,0,none⟩ v))→(∀ s W,J s W→J s W.drew) →
  (∀ pre x W1,J pre W1→pre.length<N→YieldAt F (n-1) P l (encs x) W1 fun e W'=>e = .returned (.bool true)∧J (pre++[x]) W'∧W'.heap[B]? = W1.heap[B]?) →
  J [] W →
  CallsIn F n P g (#[.func (.yield l) #[] #[]]++lb) W fun e W'=>(∃ v,e = .returned v)∧∃ xs,S xs∧J xs W'
variable {F : Fence} {n : Nat} {P : Program}
theorem wpIn_rangeFunc_cell {α : Type} {g : Operand} {ps : Array Tmp} {assign body : Code} {Q : Exit→Act→World→Prop} {a : Act} {w : World}
  (hro:F.round=none) (h1:1≤n) {gf:Nat} {lb:Array Value} (hg:a.eval g = .func (.func gf) #[] lb) (hFg:F.fn gf) (eg:∀ args w,(callFunc gf args).run P w = .ok (.enter gf args) w)
  {encs:α→Array Value} {B:Nat} {o:Obj} {S:List α→Prop} {N:Nat} (hseq:SeqCell F (n-1) P gf lb encs B o S N)
  (hBo:w.heap[B]? = some o) (hps:∀ x,(encs x).size=ps.size)
  (I:List α→World→Prop) (hI:OwnFrom w.heap.size I) (hIB:∀ s W v,I s W→I s (W.setCell ⟨B,0,none⟩ v)) (hId:∀ s W,I s W→I s W.drew) (h0:I [] w) (a₁:α→Act)
  (hassign:∀ (l:Nat) (x:α) (W:World) (K:Act→World→Prop),K (a₁ x) W →
   assign.wpIn (F.inRound l) (n-1-1) P (Exit.then K (fun _ _ _=>False)) { tmps:=(ps.zip (encs x)).foldl (fun t (p,v)=>t.setIfInBounds p v) a.tmps,defers:=[] } W)
  (hbody:∀ (l:Nat) (pre:List α) (x:α) (W:World),I pre W→pre.length<N→body.wpIn (F.inRound l) (n-1-1) P
   (fun e _ W'=>e = .normal∧KeepsFrom w.heap.size W W'∧W'.heap[B]? = W.heap[B]?∧I (pre++[x]) W') (a₁ x) W)
  (hdone:∀ (D:Nat) (xs:List α) (W:World),w.heap.size≤D→S xs→I xs W→W.heap[D]? = some (.deferred (some []))→Q .normal { a with defers:={ target := .collected D,args:=#[] } :: a.defers } W) :
  (Code.rangeFunc g ps assign body).wpIn F n P Q a w:=by
 have hBlt:B<w.heap.size:=(Array.getElem?_eq_some_iff.1 hBo).1
 refine wpIn_rangeFunc ?_
 intro fn hfn
 rw [hro]
 obtain⟨rec,hrec⟩:∃ rec:LoopState→Option Code→Loop,rec=fun st pe=>{ state:=st,pending:=pe,fn,tmps:=a.tmps,params:=ps,assign,body,defers:=w.heap.size }:=⟨_,rfl⟩
 obtain⟨W1,hW1⟩:∃ W1,(w.alloc (.deferred (some []))).alloc (.loop (rec .ready none))=W1:=⟨_,rfl⟩
 have hL1:W1.heap[w.heap.size+1]? = some (.loop (rec .ready none)):=by
  rw [←hW1];have:=World.alloc_heap_new (w.alloc (.deferred (some []))) (.loop (rec .ready none));rwa [World.size_alloc] at this
 have hK1:W1.heap[w.heap.size]? = some (.deferred (some [])):=by
  rw [←hW1];exact (Below.heap_alloc _ _ _ (by simp)).trans (World.alloc_heap_new w _)
 have hB1:W1.heap[B]? = some o:=by
  rw [←hW1,Below.heap_alloc _ _ _ (by simp;omega),Below.heap_alloc _ _ _ (by omega)];exact hBo
 have hI1:I [] W1:=by rw [←hW1];exact hI.alloc _ (hI.alloc _ h0)
 refine⟨w.heap.size+1,[{ target := .collected w.heap.size,args:=#[] }],W1,{ target := .fn (.func gf) lb,args:=#[.func (.yield (w.heap.size+1)) #[] #[]] },W1,gf,
  #[.func (.yield (w.heap.size+1)) #[] #[]]++lb,W1,?_,?_,?_,?_,fun _=>h1,?_⟩
 ·rw [←hW1,hrec];exact run_enterLoop_outer _ _ _ _ _
 ·simp only [resolve,hg]
  simp [go_sem]
 ·intro f' hf';simp [Target.leads] at hf';subst hf';exact hFg
 ·simp [invoke,go_sem,eg]
 ·refine (hseq (w.heap.size+1)
   (fun pre W=>I pre W∧W.heap[w.heap.size+1]? = some (.loop (rec .ready none))∧W.heap[w.heap.size]? = some (.deferred (some [])))
   W1 hB1
   (fun s A v hs=>⟨hIB s A v hs.1,(Below.heap_setCell _ _ _ _ (by simp;omega)).trans hs.2.1,(Below.heap_setCell _ _ _ _ (by simp;omega)).trans hs.2.2⟩)
   (fun s A hs=>⟨hId s A hs.1,hs.2.1,hs.2.2⟩)
   ?_ ⟨hI1,hL1,hK1⟩).mono ?_
  ·rintro pre x W ⟨hi,hl,hk⟩ hlen
   have hlt:w.heap.size+1<W.heap.size:=(Array.getElem?_eq_some_iff.1 hl).1
   have hy:=run_yield (P:=P) (args:=encs x) hl (by rw [hrec];exact hps x)
   rw [hrec] at hy
   refine⟨fn,_,assign,body,hy,roundIn_of_wpIn hfn (hassign _ x W _ ⟨_,run_beginRound hl (by rw [hrec]),?_⟩)⟩
   have hl2:(W.putObj (w.heap.size+1) (.loop { rec .ready none with state := .busy })).heap[w.heap.size+1]? = some (.loop { rec .ready none with state := .busy }):=World.putObj_heap_same hlt
   have hk2:(W.putObj (w.heap.size+1) (.loop { rec .ready none with state := .busy })).heap[w.heap.size]? = some (.deferred (some [])):=(World.putObj_heap_other (by omega)).trans hk
   have hb2:(W.putObj (w.heap.size+1) (.loop { rec .ready none with state := .busy })).heap[B]? = W.heap[B]?:=World.putObj_heap_other (by omega)
   refine wpIn_mono (hbody _ pre x _ (hI.putObj _ hi (by omega) hl rfl) hlen) ?_
   rintro e a3 W3 ⟨rfl,hk3,hb3,hi3⟩
   have hl3:=hk3.same _ _ (by omega) hl2 rfl
   have hre:=run_endRound (P:=P) none hl3
   rw [hrec] at hre ⊢
   rw [hrec] at hl3 hl2 hk2 hk3
   refine⟨_,_,hre,rfl,⟨hI.putObj _ hi3 (by omega) hl3 rfl,World.putObj_heap_same (Array.getElem?_eq_some_iff.1 hl3).1,(World.putObj_heap_other (by omega)).trans (hk3.same _ _ (Nat.le_refl _) hk2 rfl)⟩,?_⟩
   exact (World.putObj_heap_other (by omega)).trans (hb3.trans hb2)
  ·rintro e W2 ⟨⟨v,rfl⟩,xs,hS,hi,hl,hk⟩
   exact⟨none,_,by have:=run_endLoop (P:=P) hl (by rw [hrec];simp);rw [hrec] at this;exact this,hdone _ xs _ (Nat.le_refl _) hS (hI.putObj _ hi (by omega) hl rfl) ((World.putObj_heap_other (by omega)).trans hk)⟩
end Go.Proofs.YtfiamddinkokbaaGreat
end

section
namespace Go.Proofs.YtfiamddinkokbaaGreat
open Go
def splitL : List UInt8→List (List UInt8)
 | []=>[]
 | c::t=>if c=10 then [10]::splitL t else match splitL t with
  | []=>[[c]]
  | l::r=>(c::l)::r
def takeLine : List UInt8→List UInt8
 | []=>[]
 | c::t=>if c=10 then [10] else c::takeLine t
def dropLine : List UInt8→List UInt8
 | []=>[]
 | c::t=>if c=10 then t else dropLine t
theorem splitL_nil_iff : ∀ l : List UInt8,splitL l=[]↔l=[]
 | []=>by simp [splitL]
 | c::t=>by
  simp only [splitL]
  split
  ·simp
  ·split<;>simp
theorem splitL_next : ∀ l : List UInt8,l≠[]→splitL l=takeLine l::splitL (dropLine l)
 | [],h=>absurd rfl h
 | c::t,_=>by
  by_cases hc:c=10
  ·simp [splitL,takeLine,dropLine,hc]
  ·simp only [splitL,takeLine,dropLine,hc,if_false]
   by_cases ht:t=[]
   ·subst ht;simp [splitL,takeLine,dropLine]
   ·rw [splitL_next t ht]
theorem take_drop_line : ∀ l : List UInt8,takeLine l++dropLine l=l
 | []=>rfl
 | c::t=>by
  by_cases hc:c=10
  ·simp [takeLine,dropLine,hc]
  ·simp [takeLine,dropLine,hc,take_drop_line t]
theorem line_of_some : ∀ (l : List UInt8) (o : Nat),Lib.indexByte l 10=o→takeLine l=l.take (o+1)∧dropLine l=l.drop (o+1)
 | [],o,h=>by
  have:=(Lib.indexByte_some h).1
  simp at this
 | c::t,o,h=>by
  obtain⟨h1,h2⟩:=Lib.indexByte_some h
  by_cases hc:c=10
  ·have:o=0:=by
    rcases Nat.eq_zero_or_pos o with h0|h0
    ·exact h0
    ·exact absurd (by simp [hc]) (h2 0 h0)
   subst this
   simp [takeLine,dropLine,hc]
  ·cases o with
   | zero=>simp at h1;exact absurd h1 hc
   | succ o =>
    have ih:=line_of_some t o (by
     simp only [Lib.indexByte,beq_iff_eq,if_neg hc] at h
     split at h<;>omega)
    simp [takeLine,dropLine,hc,ih.1,ih.2]
theorem line_of_none : ∀ (l : List UInt8),Lib.indexByte l 10 = -1→takeLine l=l∧dropLine l=[]
 | [],_=>⟨rfl,rfl⟩
 | c::t,h=>by
  have hn:=Lib.indexByte_none h
  have hc:c≠10:=fun e=>hn 0 (by simp [e])
  have ih:=line_of_none t (by
   have hg:=Lib.indexByte_ge t 10
   rcases Int.lt_or_le (Lib.indexByte t 10) 0 with h0|h0
   ·omega
   ·obtain⟨o,ho⟩:=Int.eq_ofNat_of_zero_le h0
    exact absurd (Lib.indexByte_some ho).1 (by have:=hn (o+1);simpa using this))
  simp [takeLine,dropLine,hc,ih.1,ih.2]
def toB (l : List UInt8) : ByteArray := ⟨l.toArray⟩
def splitB (s : ByteArray) : List ByteArray := (splitL s.data.toList).map toB
theorem toB_data (s : ByteArray) : toB s.data.toList=s := by cases s;simp [toB]
@[simp] theorem toB_size (l : List UInt8) : (toB l).size=l.length := by simp [toB,ByteArray.size]
@[simp] theorem data_toB (l : List UInt8) : (toB l).data.toList=l := by simp [toB]
theorem splitL_length_le : ∀ l : List UInt8,(splitL l).length≤l.length
 | []=>by simp [splitL]
 | c::t=>by
  have ih:=splitL_length_le t
  simp only [splitL]
  split
  ·simpa using ih
  ·split
   ·simp
   ·rename_i h;rw [h] at ih;simp at ih ⊢;omega
end Go.Proofs.YtfiamddinkokbaaGreat
end

section
namespace Go.Proofs
open Go.Shelf
def Tryz.lays156_ren : Go.Shelf.Ren := ⟨fun|156=>155|165=>148|166=>68|169=>77|240=>105|241=>158|276=>132|277=>163|n=>n,fun|31=>42|9=>9|3=>3|4=>4|0=>0|20=>20|72=>131|76=>140|70=>128|37=>129|75=>139|127=>188|164=>204|5=>5|80=>150|n=>n,fun|n=>n⟩
theorem Tryz.lays156 : Go.Proofs.Lays.n156 Tryz.prog Tryz.lays156_ren := {
 mixed:=by kernel_rfl
 f156:=Tryz.func155.trans (congrArg some (by kernel_rfl))
 f165:=Tryz.func148.trans (congrArg some (by kernel_rfl))
 f166:=Tryz.func68.trans (congrArg some (by kernel_rfl))
 f169:=Tryz.func77.trans (congrArg some (by kernel_rfl))
 f240:=Tryz.func105.trans (congrArg some (by kernel_rfl))
 f241:=Tryz.func158.trans (congrArg some (by kernel_rfl))
 f276:=Tryz.func132.trans (congrArg some (by kernel_rfl))
 f277:=Tryz.func163.trans (congrArg some (by kernel_rfl))
 t0:=Tryz.underlying0
 a0:=Tryz.isAgg0
 z0:=Tryz.sizeOf0
 v0:=Tryz.zeroValue0
 t3:=Tryz.underlying3
 a3:=Tryz.isAgg3
 z3:=Tryz.sizeOf3
 v3:=Tryz.zeroValue3
 t4:=Tryz.underlying4
 a4:=Tryz.isAgg4
 z4:=Tryz.sizeOf4
 v4:=Tryz.zeroValue4
 t9:=Tryz.underlying9
 a9:=Tryz.isAgg9
 z9:=Tryz.sizeOf9
 v9:=Tryz.zeroValue9
 t20:=Tryz.underlying20
 a20:=Tryz.isAgg20
 z20:=Tryz.sizeOf20
 v20:=Tryz.zeroValue20
 t31:=Tryz.underlying42
 a31:=Tryz.isAgg42
 z31:=Tryz.sizeOf42
 v31:=Tryz.zeroValue42
 t37:=Tryz.underlying129
 a37:=Tryz.isAgg129
 z37:=Tryz.sizeOf129
 v37:=Tryz.zeroValue129
 t70:=Tryz.underlying128
 a70:=Tryz.isAgg128
 z70:=Tryz.sizeOf128
 v70:=Tryz.zeroValue128
 t72:=Tryz.underlying131
 a72:=Tryz.isAgg131
 z72:=Tryz.sizeOf131
 v72:=Tryz.zeroValue131
 t75:=Tryz.underlying139
 a75:=Tryz.isAgg139
 z75:=Tryz.sizeOf139
 v75:=Tryz.zeroValue139
 t76:=Tryz.underlying140
 a76:=Tryz.isAgg140
 z76:=Tryz.sizeOf140
 v76:=Tryz.zeroValue140
 t127:=Tryz.underlying188
 a127:=Tryz.isAgg188
 z127:=Tryz.sizeOf188
 v127:=Tryz.zeroValue188
 t164:=Tryz.underlying204
 a164:=Tryz.isAgg204
 z164:=Tryz.sizeOf204
 v164:=Tryz.zeroValue204 }
theorem Tryz.Builder_Extra_156 : Builder.Extra Tryz.prog Tryz.lays156_ren := {
 sizeBuilder:=by kernel_rfl
 liesBuilder:=by kernel_rfl
 t5:=Tryz.underlying5
 a5:=Tryz.isAgg5
 z5:=Tryz.sizeOf5
 v5:=Tryz.zeroValue5
 infoByte:=by kernel_rfl
 cellsByte:=by kernel_rfl
 sizeByte:=by kernel_rfl
 neB5:=by decide }
open Go.RowKit in
theorem Tryz.strings_Join_none (a : Option Addr) (c : Nat) (sep : ByteArray) (w : World) :
  Calls Tryz.prog 155 #[.slice a 0 c,.string sep] w fun e w'=>e = .returned (.string ⟨#[]⟩)∧w'=w:=Any.strings_Join_none Tryz.lays156 Tryz.Builder_Extra_156 a c sep w
open Go.RowKit in
theorem Tryz.strings_Join (bk o c : Nat) (xs : List ByteArray) (sep : ByteArray) (w : World) (hcells : ∀ (j : Nat) x,xs[j]? = some x→w.cell? ⟨bk,o+j,none⟩=some (.string x)) (hbk : bk<w.heap.size) (hN : xs.length≤140737488355328) (hcap : xs.length≤c) (hlen : (Lib.join (xs.map (·.data.toList)) sep.data.toList).length≤140737488355328) :
  Calls Tryz.prog 155 #[.slice (some ⟨bk,o,none⟩) xs.length c,.string sep] w fun e w'=>e = .returned (.string ⟨(Lib.join (xs.map (·.data.toList)) sep.data.toList).toArray⟩)∧Below w.heap.size w w':=Any.strings_Join Tryz.lays156 Tryz.Builder_Extra_156 bk o c xs sep w hcells hbk hN hcap hlen
def Tryz.lays137_ren : Go.Shelf.Ren := ⟨fun|137=>119|217=>138|266=>151|n=>n,fun|9=>9|5=>5|3=>3|n=>n,fun|n=>n⟩
theorem Tryz.lays137 : Go.Proofs.Lays.n137 Tryz.prog Tryz.lays137_ren := {
 mixed:=by kernel_rfl
 f137:=Tryz.func119.trans (congrArg some (by kernel_rfl))
 f217:=Tryz.func138.trans (congrArg some (by kernel_rfl))
 f266:=Tryz.func151.trans (congrArg some (by kernel_rfl))
 t3:=Tryz.underlying3
 a3:=Tryz.isAgg3
 z3:=Tryz.sizeOf3
 v3:=Tryz.zeroValue3
 t5:=Tryz.underlying5
 a5:=Tryz.isAgg5
 z5:=Tryz.sizeOf5
 v5:=Tryz.zeroValue5
 t9:=Tryz.underlying9
 a9:=Tryz.isAgg9
 z9:=Tryz.sizeOf9
 v9:=Tryz.zeroValue9 }
open Go.RowKit in
theorem Tryz.strings_IndexByte (s : ByteArray) (c : Int) (w : World) :
  Calls Tryz.prog 119 #[.string s,.int .u8 c] w fun e w'=>e = .returned (.int .i64 (Lib.indexByte s.data.toList c.toNat.toUInt8))∧w'=w:=Any.strings_IndexByte Tryz.lays137 s c w
def Tryz.lays210_ren : Go.Shelf.Ren := ⟨fun|210=>129|206=>146|n=>n,fun|9=>9|4=>4|3=>3|n=>n,fun|n=>n⟩
theorem Tryz.lays210 : Go.Proofs.Lays.n210 Tryz.prog Tryz.lays210_ren := {
 mixed:=by kernel_rfl
 f206:=Tryz.func146.trans (congrArg some (by kernel_rfl))
 f210:=Tryz.func129.trans (congrArg some (by kernel_rfl))
 t3:=Tryz.underlying3
 a3:=Tryz.isAgg3
 z3:=Tryz.sizeOf3
 v3:=Tryz.zeroValue3
 t4:=Tryz.underlying4
 a4:=Tryz.isAgg4
 z4:=Tryz.sizeOf4
 v4:=Tryz.zeroValue4
 t9:=Tryz.underlying9
 a9:=Tryz.isAgg9
 z9:=Tryz.sizeOf9
 v9:=Tryz.zeroValue9 }
open Go.RowKit in
theorem Tryz.stringslite_CutPrefix (s p : ByteArray) (w : World) :
  Calls Tryz.prog 129 #[.string s,.string p] w fun e w'=>e = .returned (.tuple #[.string ⟨(Lib.trimPrefix s.data.toList p.data.toList).toArray⟩,.bool (Lib.hasPrefix s.data.toList p.data.toList)])∧w'=w:=Any.stringslite_CutPrefix Tryz.lays210 s p w
def Tryz.lays103_ren : Go.Shelf.Ren := ⟨fun|103=>99|210=>129|206=>146|n=>n,fun|9=>9|4=>4|24=>113|3=>3|n=>n,fun|n=>n⟩
theorem Tryz.lays103 : Go.Proofs.Lays.n103 Tryz.prog Tryz.lays103_ren := {
 mixed:=by kernel_rfl
 f103:=Tryz.func99.trans (congrArg some (by kernel_rfl))
 f206:=Tryz.func146.trans (congrArg some (by kernel_rfl))
 f210:=Tryz.func129.trans (congrArg some (by kernel_rfl))
 t3:=Tryz.underlying3
 a3:=Tryz.isAgg3
 z3:=Tryz.sizeOf3
 v3:=Tryz.zeroValue3
 t4:=Tryz.underlying4
 a4:=Tryz.isAgg4
 z4:=Tryz.sizeOf4
 v4:=Tryz.zeroValue4
 t9:=Tryz.underlying9
 a9:=Tryz.isAgg9
 z9:=Tryz.sizeOf9
 v9:=Tryz.zeroValue9
 t24:=Tryz.underlying113
 a24:=Tryz.isAgg113
 z24:=Tryz.sizeOf113
 v24:=Tryz.zeroValue113 }
open Go.RowKit in
theorem Tryz.strings_CutPrefix (s p : ByteArray) (w : World) :
  Calls Tryz.prog 99 #[.string s,.string p] w fun e w'=>e = .returned (.tuple #[.string ⟨(Lib.trimPrefix s.data.toList p.data.toList).toArray⟩,.bool (Lib.hasPrefix s.data.toList p.data.toList)])∧w'=w:=Any.strings_CutPrefix Tryz.lays103 s p w
def Tryz.lays144_ren : Go.Shelf.Ren := ⟨fun|144=>116|143=>137|219=>150|217=>138|225=>159|224=>160|267=>161|266=>151|314=>164|n=>n,fun|9=>9|4=>4|3=>3|5=>5|46=>181|146=>208|51=>207|n=>n,fun|1=>0|n=>n⟩
theorem Tryz.lays144 : Go.Proofs.Lays.n144 Tryz.prog Tryz.lays144_ren := {
 mixed:=by kernel_rfl
 f143:=Tryz.func137.trans (congrArg some (by kernel_rfl))
 f144:=Tryz.func116.trans (congrArg some (by kernel_rfl))
 f217:=Tryz.func138.trans (congrArg some (by kernel_rfl))
 f219:=Tryz.func150.trans (congrArg some (by kernel_rfl))
 f224:=Tryz.func160.trans (congrArg some (by kernel_rfl))
 f225:=Tryz.func159.trans (congrArg some (by kernel_rfl))
 f266:=Tryz.func151.trans (congrArg some (by kernel_rfl))
 f267:=Tryz.func161.trans (congrArg some (by kernel_rfl))
 f314:=Tryz.func164.trans (congrArg some (by kernel_rfl))
 t3:=Tryz.underlying3
 a3:=Tryz.isAgg3
 z3:=Tryz.sizeOf3
 v3:=Tryz.zeroValue3
 t4:=Tryz.underlying4
 a4:=Tryz.isAgg4
 z4:=Tryz.sizeOf4
 v4:=Tryz.zeroValue4
 t5:=Tryz.underlying5
 a5:=Tryz.isAgg5
 z5:=Tryz.sizeOf5
 v5:=Tryz.zeroValue5
 t9:=Tryz.underlying9
 a9:=Tryz.isAgg9
 z9:=Tryz.sizeOf9
 v9:=Tryz.zeroValue9
 t46:=Tryz.underlying181
 a46:=Tryz.isAgg181
 z46:=Tryz.sizeOf181
 v46:=Tryz.zeroValue181
 t51:=Tryz.underlying207
 a51:=Tryz.isAgg207
 z51:=Tryz.sizeOf207
 v51:=Tryz.zeroValue207
 t146:=Tryz.underlying208
 a146:=Tryz.isAgg208
 z146:=Tryz.sizeOf208
 v146:=Tryz.zeroValue208
 g1:=by kernel_rfl }
open Go.RowKit Go.Lib in
theorem Tryz.strings_Contains_one (s : ByteArray) (c : UInt8) (w : World) :
  Calls Tryz.prog 116 #[.string s,.string ⟨#[c]⟩] w fun e w'=>e = .returned (.bool (decide (0≤Lib.indexByte s.data.toList c)))∧w'=w:=Any.strings_Contains_one Tryz.lays144 s c w
open Go.RowKit Go.Lib in
theorem Tryz.strings_Contains (s sub : ByteArray) (m : Int) (w : World) (hs : s.size<4294967281) (hm : w.cell? ⟨0,0,none⟩=some (.int .i64 m)) :
  Calls Tryz.prog 116 #[.string s,.string sub] w fun e w'=>e = .returned (.bool (Lib.contains s.data.toList sub.data.toList))∧w'=w:=Any.strings_Contains Tryz.lays144 s sub m w hs hm
def Tryz.lays206_ren : Go.Shelf.Ren := ⟨fun|206=>146|n=>n,fun|9=>9|4=>4|3=>3|n=>n,fun|n=>n⟩
theorem Tryz.lays206 : Go.Proofs.Lays.n206 Tryz.prog Tryz.lays206_ren := {
 mixed:=by kernel_rfl
 f206:=Tryz.func146.trans (congrArg some (by kernel_rfl))
 t3:=Tryz.underlying3
 a3:=Tryz.isAgg3
 z3:=Tryz.sizeOf3
 v3:=Tryz.zeroValue3
 t4:=Tryz.underlying4
 a4:=Tryz.isAgg4
 z4:=Tryz.sizeOf4
 v4:=Tryz.zeroValue4
 t9:=Tryz.underlying9
 a9:=Tryz.isAgg9
 z9:=Tryz.sizeOf9
 v9:=Tryz.zeroValue9 }
open Go.RowKit Go.Lib in
theorem Tryz.stringslite_HasPrefix (s p : ByteArray) (w : World) :
  Calls Tryz.prog 146 #[.string s,.string p] w fun e w'=>e = .returned (.bool (Lib.hasPrefix s.data.toList p.data.toList))∧w'=w:=Any.stringslite_HasPrefix Tryz.lays206 s p w
def Tryz.lays207_ren : Go.Shelf.Ren := ⟨fun|207=>133|n=>n,fun|9=>9|4=>4|3=>3|n=>n,fun|n=>n⟩
theorem Tryz.lays207 : Go.Proofs.Lays.n207 Tryz.prog Tryz.lays207_ren := {
 mixed:=by kernel_rfl
 f207:=Tryz.func133.trans (congrArg some (by kernel_rfl))
 t3:=Tryz.underlying3
 a3:=Tryz.isAgg3
 z3:=Tryz.sizeOf3
 v3:=Tryz.zeroValue3
 t4:=Tryz.underlying4
 a4:=Tryz.isAgg4
 z4:=Tryz.sizeOf4
 v4:=Tryz.zeroValue4
 t9:=Tryz.underlying9
 a9:=Tryz.isAgg9
 z9:=Tryz.sizeOf9
 v9:=Tryz.zeroValue9 }
open Go.RowKit Go.Lib in
theorem Tryz.stringslite_HasSuffix (s p : ByteArray) (w : World) (hs : s.size≤9223372036854775807) :
  Calls Tryz.prog 133 #[.string s,.string p] w fun e w'=>e = .returned (.bool (Lib.hasSuffix s.data.toList p.data.toList))∧w'=w:=Any.stringslite_HasSuffix Tryz.lays207 s p w hs
def Tryz.lays100_ren : Go.Shelf.Ren := ⟨fun|100=>109|207=>133|n=>n,fun|9=>9|4=>4|3=>3|n=>n,fun|n=>n⟩
theorem Tryz.lays100 : Go.Proofs.Lays.n100 Tryz.prog Tryz.lays100_ren := {
 mixed:=by kernel_rfl
 f100:=Tryz.func109.trans (congrArg some (by kernel_rfl))
 f207:=Tryz.func133.trans (congrArg some (by kernel_rfl))
 t3:=Tryz.underlying3
 a3:=Tryz.isAgg3
 z3:=Tryz.sizeOf3
 v3:=Tryz.zeroValue3
 t4:=Tryz.underlying4
 a4:=Tryz.isAgg4
 z4:=Tryz.sizeOf4
 v4:=Tryz.zeroValue4
 t9:=Tryz.underlying9
 a9:=Tryz.isAgg9
 z9:=Tryz.sizeOf9
 v9:=Tryz.zeroValue9 }
open Go.RowKit Go.Lib in
theorem Tryz.strings_HasSuffix (s p : ByteArray) (w : World) (hs : s.size≤9223372036854775807) :
  Calls Tryz.prog 109 #[.string s,.string p] w fun e w'=>e = .returned (.bool (Lib.hasSuffix s.data.toList p.data.toList))∧w'=w:=Any.strings_HasSuffix Tryz.lays100 s p w hs
def Tryz.lays209_ren : Go.Shelf.Ren := ⟨fun|209=>130|207=>133|n=>n,fun|9=>9|4=>4|3=>3|n=>n,fun|n=>n⟩
theorem Tryz.lays209 : Go.Proofs.Lays.n209 Tryz.prog Tryz.lays209_ren := {
 mixed:=by kernel_rfl
 f207:=Tryz.func133.trans (congrArg some (by kernel_rfl))
 f209:=Tryz.func130.trans (congrArg some (by kernel_rfl))
 t3:=Tryz.underlying3
 a3:=Tryz.isAgg3
 z3:=Tryz.sizeOf3
 v3:=Tryz.zeroValue3
 t4:=Tryz.underlying4
 a4:=Tryz.isAgg4
 z4:=Tryz.sizeOf4
 v4:=Tryz.zeroValue4
 t9:=Tryz.underlying9
 a9:=Tryz.isAgg9
 z9:=Tryz.sizeOf9
 v9:=Tryz.zeroValue9 }
open Go.RowKit Go.Lib in
theorem Tryz.stringslite_TrimSuffix (s p : ByteArray) (w : World) (hs : s.size≤9223372036854775807) :
  Calls Tryz.prog 130 #[.string s,.string p] w fun e w'=>e = .returned (.string ⟨(Lib.trimSuffix s.data.toList p.data.toList).toArray⟩)∧w'=w:=Any.stringslite_TrimSuffix Tryz.lays209 s p w hs
def Tryz.lays102_ren : Go.Shelf.Ren := ⟨fun|102=>100|209=>130|207=>133|n=>n,fun|9=>9|4=>4|3=>3|n=>n,fun|n=>n⟩
theorem Tryz.lays102 : Go.Proofs.Lays.n102 Tryz.prog Tryz.lays102_ren := {
 mixed:=by kernel_rfl
 f102:=Tryz.func100.trans (congrArg some (by kernel_rfl))
 f207:=Tryz.func133.trans (congrArg some (by kernel_rfl))
 f209:=Tryz.func130.trans (congrArg some (by kernel_rfl))
 t3:=Tryz.underlying3
 a3:=Tryz.isAgg3
 z3:=Tryz.sizeOf3
 v3:=Tryz.zeroValue3
 t4:=Tryz.underlying4
 a4:=Tryz.isAgg4
 z4:=Tryz.sizeOf4
 v4:=Tryz.zeroValue4
 t9:=Tryz.underlying9
 a9:=Tryz.isAgg9
 z9:=Tryz.sizeOf9
 v9:=Tryz.zeroValue9 }
open Go.RowKit Go.Lib in
theorem Tryz.strings_TrimSuffix (s p : ByteArray) (w : World) (hs : s.size≤9223372036854775807) :
  Calls Tryz.prog 100 #[.string s,.string p] w fun e w'=>e = .returned (.string ⟨(Lib.trimSuffix s.data.toList p.data.toList).toArray⟩)∧w'=w:=Any.strings_TrimSuffix Tryz.lays102 s p w hs
def Tryz.lays212_ren : Go.Shelf.Ren := ⟨fun|212=>111|263=>134|264=>135|n=>n,fun|46=>181|51=>207|146=>208|53=>82|148=>210|n=>n,fun|n=>n⟩
theorem Tryz.lays212 : Go.Proofs.Lays.n212 Tryz.prog Tryz.lays212_ren := {
 mixed:=by kernel_rfl
 f212:=Tryz.func111.trans (congrArg some (by kernel_rfl))
 f263:=Tryz.func134.trans (congrArg some (by kernel_rfl))
 f264:=Tryz.func135.trans (congrArg some (by kernel_rfl))
 t46:=Tryz.underlying181
 a46:=Tryz.isAgg181
 z46:=Tryz.sizeOf181
 v46:=Tryz.zeroValue181
 t51:=Tryz.underlying207
 a51:=Tryz.isAgg207
 z51:=Tryz.sizeOf207
 v51:=Tryz.zeroValue207
 t53:=Tryz.underlying82
 a53:=Tryz.isAgg82
 z53:=Tryz.sizeOf82
 v53:=Tryz.zeroValue82
 t146:=Tryz.underlying208
 a146:=Tryz.isAgg208
 z146:=Tryz.sizeOf208
 v146:=Tryz.zeroValue208
 t148:=Tryz.underlying210
 a148:=Tryz.isAgg210
 z148:=Tryz.sizeOf210
 v148:=Tryz.zeroValue210 }
open Go.RowKit Go.Lib in
theorem Tryz.bits_Mul (x y : Nat) (hx : x<18446744073709551616) (hy : y<18446744073709551616) (w : World) :
  Calls Tryz.prog 111 #[.int .u64 x,.int .u64 y] w fun e w'=>e = .returned (.tuple #[.int .u64 ((x*y / 18446744073709551616:Nat):Int),.int .u64 ((x*y % 18446744073709551616:Nat):Int)])∧w'=w:=Any.bits_Mul Tryz.lays212 x y hx hy w
def Tryz.lays105_ren : Go.Shelf.Ren := ⟨fun|105=>131|212=>111|99=>147|165=>148|166=>68|170=>149|169=>77|263=>134|264=>135|206=>146|240=>105|241=>158|276=>132|277=>163|n=>n,fun|9=>9|3=>3|4=>4|20=>20|0=>0|46=>181|109=>182|5=>5|72=>131|76=>140|51=>207|146=>208|53=>82|148=>210|70=>128|37=>129|75=>139|127=>188|164=>204|80=>150|n=>n,fun|n=>n⟩
theorem Tryz.lays105 : Go.Proofs.Lays.n105 Tryz.prog Tryz.lays105_ren := {
 mixed:=by kernel_rfl
 f99:=Tryz.func147.trans (congrArg some (by kernel_rfl))
 f105:=Tryz.func131.trans (congrArg some (by kernel_rfl))
 f165:=Tryz.func148.trans (congrArg some (by kernel_rfl))
 f166:=Tryz.func68.trans (congrArg some (by kernel_rfl))
 f169:=Tryz.func77.trans (congrArg some (by kernel_rfl))
 f170:=Tryz.func149.trans (congrArg some (by kernel_rfl))
 f206:=Tryz.func146.trans (congrArg some (by kernel_rfl))
 f212:=Tryz.func111.trans (congrArg some (by kernel_rfl))
 f240:=Tryz.func105.trans (congrArg some (by kernel_rfl))
 f241:=Tryz.func158.trans (congrArg some (by kernel_rfl))
 f263:=Tryz.func134.trans (congrArg some (by kernel_rfl))
 f264:=Tryz.func135.trans (congrArg some (by kernel_rfl))
 f276:=Tryz.func132.trans (congrArg some (by kernel_rfl))
 f277:=Tryz.func163.trans (congrArg some (by kernel_rfl))
 t0:=Tryz.underlying0
 a0:=Tryz.isAgg0
 z0:=Tryz.sizeOf0
 v0:=Tryz.zeroValue0
 t3:=Tryz.underlying3
 a3:=Tryz.isAgg3
 z3:=Tryz.sizeOf3
 v3:=Tryz.zeroValue3
 t4:=Tryz.underlying4
 a4:=Tryz.isAgg4
 z4:=Tryz.sizeOf4
 v4:=Tryz.zeroValue4
 t5:=Tryz.underlying5
 a5:=Tryz.isAgg5
 z5:=Tryz.sizeOf5
 v5:=Tryz.zeroValue5
 t9:=Tryz.underlying9
 a9:=Tryz.isAgg9
 z9:=Tryz.sizeOf9
 v9:=Tryz.zeroValue9
 t20:=Tryz.underlying20
 a20:=Tryz.isAgg20
 z20:=Tryz.sizeOf20
 v20:=Tryz.zeroValue20
 t37:=Tryz.underlying129
 a37:=Tryz.isAgg129
 z37:=Tryz.sizeOf129
 v37:=Tryz.zeroValue129
 t46:=Tryz.underlying181
 a46:=Tryz.isAgg181
 z46:=Tryz.sizeOf181
 v46:=Tryz.zeroValue181
 t51:=Tryz.underlying207
 a51:=Tryz.isAgg207
 z51:=Tryz.sizeOf207
 v51:=Tryz.zeroValue207
 t53:=Tryz.underlying82
 a53:=Tryz.isAgg82
 z53:=Tryz.sizeOf82
 v53:=Tryz.zeroValue82
 t70:=Tryz.underlying128
 a70:=Tryz.isAgg128
 z70:=Tryz.sizeOf128
 v70:=Tryz.zeroValue128
 t72:=Tryz.underlying131
 a72:=Tryz.isAgg131
 z72:=Tryz.sizeOf131
 v72:=Tryz.zeroValue131
 t75:=Tryz.underlying139
 a75:=Tryz.isAgg139
 z75:=Tryz.sizeOf139
 v75:=Tryz.zeroValue139
 t76:=Tryz.underlying140
 a76:=Tryz.isAgg140
 z76:=Tryz.sizeOf140
 v76:=Tryz.zeroValue140
 t109:=Tryz.underlying182
 a109:=Tryz.isAgg182
 z109:=Tryz.sizeOf182
 v109:=Tryz.zeroValue182
 t127:=Tryz.underlying188
 a127:=Tryz.isAgg188
 z127:=Tryz.sizeOf188
 v127:=Tryz.zeroValue188
 t146:=Tryz.underlying208
 a146:=Tryz.isAgg208
 z146:=Tryz.sizeOf208
 v146:=Tryz.zeroValue208
 t148:=Tryz.underlying210
 a148:=Tryz.isAgg210
 z148:=Tryz.sizeOf210
 v148:=Tryz.zeroValue210
 t164:=Tryz.underlying204
 a164:=Tryz.isAgg204
 z164:=Tryz.sizeOf204
 v164:=Tryz.zeroValue204 }
theorem Tryz.Builder_Extra_105 : Builder.Extra Tryz.prog Tryz.lays105_ren := {
 sizeBuilder:=by kernel_rfl
 liesBuilder:=by kernel_rfl
 t5:=Tryz.underlying5
 a5:=Tryz.isAgg5
 z5:=Tryz.sizeOf5
 v5:=Tryz.zeroValue5
 infoByte:=by kernel_rfl
 cellsByte:=by kernel_rfl
 sizeByte:=by kernel_rfl
 neB5:=by decide }
open Go.RowKit Go.Lib in
theorem Tryz.strings_Repeat (s : ByteArray) (c : Nat) (w : World) (hc : c≤9223372036854775807) (hlen : s.size*c≤140737488355328) :
  Calls Tryz.prog 131 #[.string s,.int .i64 c] w fun e w'=>e = .returned (.string ⟨(Lib.repeatL s.data.toList c).toArray⟩)∧Below w.heap.size w w':=Any.strings_Repeat Tryz.lays105 Tryz.Builder_Extra_105 s c w hc hlen
def Tryz.laysNm216_ren : Go.Shelf.Ren := ⟨fun|16=>144|n=>n,fun|24=>42|9=>9|4=>4|n=>n,fun|n=>n⟩
theorem Tryz.laysNm216 : Go.Proofs.Lays2.n16 Tryz.prog Tryz.laysNm216_ren := {
 mixed:=by kernel_rfl
 f16:=Tryz.func144.trans (congrArg some (by kernel_rfl))
 t4:=Tryz.underlying4
 a4:=Tryz.isAgg4
 z4:=Tryz.sizeOf4
 v4:=Tryz.zeroValue4
 t9:=Tryz.underlying9
 a9:=Tryz.isAgg9
 z9:=Tryz.sizeOf9
 v9:=Tryz.zeroValue9
 t24:=Tryz.underlying42
 a24:=Tryz.isAgg42
 z24:=Tryz.sizeOf42
 v24:=Tryz.zeroValue42
 i9:=by kernel_rfl }
open Go.RowKit Go.Lib in
theorem Tryz.slices_Clone_string (b off n c : Nat) (zs : List ByteArray) (w : World) (hz : n≤zs.length) (hbig : n*16≤140737488355328) (hc : ∀ j,j<zs.length→w.cell? ⟨b,off+j,none⟩=some (.string (zs.getD j ByteArray.empty))) :
  Calls Tryz.prog 144 #[.slice (some ⟨b,off,none⟩) n c] w fun e w'=>∃ v',e = .returned v'∧w'.ownsRow w.heap.size 9 1 v' n ((zs.take n).map (Value.string))∧v' ≠ .slice none 0 0∧Below w.heap.size w w':=Any.slices_Clone_string Tryz.laysNm216 b off n c zs w hz hbig hc
open Go.RowKit Go.Lib in
theorem Tryz.slices_Clone_string_nil (n c : Nat) (w : World) :
  Calls Tryz.prog 144 #[.slice none n c] w fun e w'=>e = .returned (.slice none 0 0)∧w'=w:=Any.slices_Clone_string_nil Tryz.laysNm216 n c w
open Go.RowKit Go.Lib in
theorem Tryz.slices_Clone_string_zero (a : Addr) (c : Nat) (w : World) :
  Calls Tryz.prog 144 #[.slice (some a) 0 c] w fun e w'=>∃ v',e = .returned v'∧w'.ownsRow w.heap.size 9 1 v' 0 []∧v' ≠ .slice none 0 0∧Below w.heap.size w w':=Any.slices_Clone_string_zero Tryz.laysNm216 a c w
end Go.Proofs
end

section
namespace Go.Proofs.YtfiamddinkokbaaGreat
open Go.RowKit Go.Shelf Go.Proofs.YtfiamddinkokbaaGreatW.PrintWords
attribute [local go_sem] Oper.semAt_some
def leftIn (B : Nat) (W : World) : Nat := match W.cell? ⟨B,0,none⟩ with|some (.string s)=>s.size|_=>0
theorem leftIn_eq {B : Nat} {W : World} {s : ByteArray} (h : W.cell? ⟨B,0,none⟩=some (.string s)) : leftIn B W=s.size := by simp [leftIn,h]
theorem own_lower {w : World} {base base' : Nat} {e : TypeId} {size n : Nat} {v : Value} {xs : List Value} (hb : base'≤base) (h : w.ownsRow base e size v n xs) : w.ownsRow base' e size v n xs := by
 obtain⟨h1,h2⟩:=h
 refine⟨h1,?_⟩
 rcases h2 with h2|⟨g,cap,cur,hv,hg,r⟩
 ·exact Or.inl h2
 ·exact Or.inr ⟨g,cap,cur,hv,Nat.le_trans hb hg,r⟩
theorem dropLine_lt : ∀ l : List UInt8,l≠[]→(dropLine l).length<l.length
 | [],h=>absurd rfl h
 | c::t,_=>by
  by_cases hc:c=10
  ·simp [dropLine,hc]
  ·by_cases ht:t=[]
   ·subst ht;simp [dropLine,hc]
   ·have:=dropLine_lt t ht
    simp [dropLine,hc];omega
set_option maxRecDepth 100000 in
set_option maxHeartbeats 1000000 in
theorem lines1_in (n : Nat) (hn : 1≤n) (l B : Nat) (s0 : ByteArray) (hsz : s0.size≤4000000000) (J : List ByteArray→World→Prop)
  (hset:∀ s W v,J s W→J s (W.setCell ⟨B,0,none⟩ v)) (hdr:∀ s W,J s W→J s W.drew)
  (hY:∀ pre x W1,J pre W1→pre.length<(splitB s0).length→YieldAt Fence.wide (n-1) Tryz.prog l #[.string x] W1 fun e W'=>e = .returned (.bool true)∧J (pre++[x]) W'∧W'.heap[B]? = W1.heap[B]?)
  (W:World) (hB:Boxed W B 9 (.string s0)) (h0:J [] W) :
  CallsIn Fence.wide n Tryz.prog 118 #[.func (.yield l) #[] #[],.pointer (some ⟨B,0,none⟩)] W fun e W'=>(∃ v,e = .returned v)∧∃ xs,xs=splitB s0∧J xs W':=by
 refine callsIn_of_wp Tryz.func118 rfl trivial ?_ rfl
 simp only [Tryz.ntmps118,List.size_toArray,List.length_cons,List.length_nil,Nat.reduceAdd,Nat.reduceSub,Array.replicate_succ,Array.replicate_zero,List.push_toArray,List.append_toArray,List.nil_append,List.cons_append]
 gi_wp2
 gi_loopw [3,4] (fun _ _ wr=>∃ (pre:List ByteArray) (s:ByteArray),Boxed wr B 9 (.string s)∧s.size≤s0.size∧splitB s0=pre++splitB s∧J pre wr)
  (fun _ _ wr=>leftIn B wr)
 case atStart=>exact⟨[],s0,hB,Nat.le_refl _,rfl,h0⟩
 case round =>
  obtain⟨pre,s,hb,hle,hx,hJ⟩:=hrel
  have hsz':s.size≤4000000000:=by omega
  have hc:=hb.cell
  have hf:=hb.frozen
  by_cases hs:s.size=0
  ·have hs0:decide ((0:Int)<(s.size:Int))=false:=by simp [hs]
   have hnil:splitB s=[]:=by
    have:s.data.toList=[]:=List.eq_nil_of_length_eq_zero (by rw [Array.length_toList];exact hs)
    simp [splitB,this,splitL]
   have HE:=Lib.hid (show ∃ xs,xs=splitB s0∧J xs wr from ⟨pre,by rw [hx,hnil,List.append_nil],hJ⟩)
   clear hx hnil
   gi_wp2
   go_end0
   exact⟨⟨_,rfl⟩,HE.out⟩
  ·have hs0:decide ((0:Int)<(s.size:Int))=true:=by simp;omega
   have hne:s.data.toList≠[]:=by
    intro h;apply hs;have:=congrArg List.length h;rw [Array.length_toList] at this;exact this
   have hnx:splitB s=toB (takeLine s.data.toList)::splitB (toB (dropLine s.data.toList)):=by
    unfold splitB;rw [splitL_next _ hne];simp
   have HD:Hid ((dropLine s.data.toList).length<s.size):=by
    have:=dropLine_lt _ hne;rw [Array.length_toList] at this;exact this
   have HX:=Lib.hid hx
   have HN:=Lib.hid hnx
   clear hx hnx
   have hcall:=Tryz.strings_IndexByte s 10 wr
   rw [show (10:Int).toNat.toUInt8=10 from rfl] at hcall
   by_cases hi:0≤Lib.indexByte s.data.toList 10
   ·obtain⟨i,hi'⟩:=Int.eq_ofNat_of_zero_le hi
    rw [hi'] at hcall
    have hlt:i<s.size:=by
     have:=(Lib.indexByte_some hi').1
     have:=(List.getElem?_eq_some_iff.1 this).1
     rw [Array.length_toList] at this;exact this
    have hl:=line_of_some _ i hi'
    have HL:=Lib.hid hl
    clear hl hi hi'
    have HCALL:=Lib.hid hcall
    clear hcall
    gi_wp2_with (refine⟨trivial,?_⟩;gi_at_call 119;refine (callsIn_wide.2 HCALL.out).mono ?_;rintro e w' ⟨rfl,rfl⟩)
    gi_region
    have hb1:Boxed (w'.setCell ⟨B,0,none⟩ (.string (s.extract (i+1) s.size))).drew B 9 (.string (s.extract (i+1) s.size)):=hb.set _
    have e1:s.extract 0 (i+1)=toB (takeLine s.data.toList):=by
     rw [HL.out.1,←toB_data (s.extract 0 (i+1)),Lib.extract_data];simp
    have e2:s.extract (i+1) s.size=toB (dropLine s.data.toList):=by
     rw [HL.out.2,←toB_data (s.extract (i+1) s.size),Lib.extract_data,List.take_of_length_le (by rw [List.length_drop,Array.length_toList];exact Nat.le_refl _)]
    have hJ1:J pre (w'.setCell ⟨B,0,none⟩ (.string (s.extract (i+1) s.size))).drew:=hdr _ _ (hset _ _ _ hJ)
    have hlen:pre.length<(splitB s0).length:=by rw [HX.out,HN.out];simp
    obtain⟨fn,tmps,assign,body,hy,hR⟩:=hY pre (s.extract 0 (i+1)) _ hJ1 hlen
    have E1:=Lib.hid e1
    have E2:=Lib.hid e2
    clear e1 e2 hlen
    gi_wp2
    refine hR.mono ?_
    rintro e W3 ⟨rfl,hJ3,hk3⟩
    have hb3:Boxed W3 B 9 (.string (s.extract (i+1) s.size)):=hk3.trans hb1
    gi_wp2
    go_roundw
    case rel =>
     refine⟨pre++[s.extract 0 (i+1)],s.extract (i+1) s.size,hb3,?_,?_,hJ3⟩
     ·rw [E2.out,toB_size];have:=HD.out;omega
     ·rw [HX.out,HN.out,E1.out,E2.out];simp
    case measure =>
     rw [leftIn_eq hb3.cell,leftIn_eq hc,E2.out,toB_size];exact HD.out
   ·have hi0:Lib.indexByte s.data.toList 10 = -1:=by have:=Lib.indexByte_ge s.data.toList 10;omega
    rw [hi0] at hcall
    have hl:=line_of_none _ hi0
    have HL:=Lib.hid hl
    clear hl hi hi0
    have HCALL:=Lib.hid hcall
    clear hcall
    have hb1:Boxed (wr.setCell ⟨B,0,none⟩ (.string ⟨#[]⟩)) B 9 (.string ⟨#[]⟩):=hb.set _
    have hJ1:J pre (wr.setCell ⟨B,0,none⟩ (.string ⟨#[]⟩)):=hset _ _ _ hJ
    have hlen:pre.length<(splitB s0).length:=by rw [HX.out,HN.out];simp
    obtain⟨fn,tmps,assign,body,hy,hR⟩:=hY pre s _ hJ1 hlen
    clear hlen
    gi_wp2_with (refine⟨trivial,?_⟩;gi_at_call 119;refine (callsIn_wide.2 HCALL.out).mono ?_;rintro e w' ⟨rfl,rfl⟩)
    refine hR.mono ?_
    rintro e W3 ⟨rfl,hJ3,hk3⟩
    have hb3:Boxed W3 B 9 (.string ⟨#[]⟩):=hk3.trans hb1
    gi_wp2
    go_roundw
    case rel =>
     refine⟨pre++[s],⟨#[]⟩,hb3,Nat.zero_le _,?_,hJ3⟩
     rw [HX.out,HN.out,HL.out.1,HL.out.2,toB_data];simp [splitB,splitL,toB]
    case measure =>
     rw [leftIn_eq hb3.cell,leftIn_eq hc]
     show 0<s.size
     omega
theorem lines_seq (n : Nat) (hn : 1≤n) (B : Nat) (s0 : ByteArray) (hsz : s0.size≤4000000000) :
  SeqCell Fence.wide n Tryz.prog 118 #[.pointer (some ⟨B,0,none⟩)] (fun x:ByteArray=>#[Value.string x]) B (.cells #[.string s0] 9 (0,0)) (fun xs=>xs=splitB s0) (splitB s0).length :=
 fun l J W hB hset hdr hY h0=>lines1_in n hn l B s0 hsz J hset hdr hY W hB h0
set_option maxHeartbeats 1000000 in
theorem lines_in (n : Nat) (s : ByteArray) (w : World) :
  CallsIn Fence.wide n Tryz.prog 81 #[.string s] w fun e w'=>e = .returned (.func (.func 118) #[] #[.pointer (some ⟨w.heap.size,0,none⟩)])∧w'=w.alloc (.cells #[.string s] 9):=by
 refine callsIn_of_wp Tryz.func81 rfl trivial ?_ rfl
 simp only [Tryz.ntmps81,List.size_toArray,List.length_cons,List.length_nil,Nat.reduceAdd,Nat.reduceSub,Array.replicate_succ,Array.replicate_zero,List.push_toArray,List.append_toArray,List.nil_append,List.cons_append]
 gi_wp2
 go_ret
 exact⟨rfl,rfl⟩
theorem split_info : (Tryz.prog.info? 9).map (fun i=>(i.zero,i.size,i.bytes))=some (some (.string ⟨#[]⟩),1,16) := by kernel_rfl
set_option maxRecDepth 100000 in
set_option maxHeartbeats 2000000 in
theorem appendSeq_in (n : Nat) (hn : 3≤n) (s : ByteArray) (hsz : s.size≤4000000000) (n₀ B : Nat) (w0 w : World) (h0B : n₀≤B) (hw0 : n₀≤w0.heap.size) (hbel : Below n₀ w0 w) (hB : Boxed w B 9 (.string s)) :
  CallsIn Fence.wide n Tryz.prog 117 #[.slice none 0 0,.func (.func 118) #[] #[.pointer (some ⟨B,0,none⟩)]] w fun e W'=>∃ v,e = .returned v∧W'.ownsRow n₀ 9 1 v (splitB s).length ((splitB s).map Value.string)∧Below n₀ w0 W':=by
 have h1:1≤n:=by omega
 obtain⟨i0,hi,hz0,hz1,hz2⟩:=info_parts split_info
 refine callsIn_of_wp_marks Tryz.func117 rfl trivial ?_ rfl
 simp only [Tryz.ntmps117,List.size_toArray,List.length_cons,List.length_nil,Nat.reduceAdd,Nat.reduceSub,Array.replicate_succ,Array.replicate_zero,List.push_toArray,List.append_toArray,List.nil_append,List.cons_append]
 have hBlt:=hB.lt
 have bO:=Boxed.new w 42 (.slice none 0 0)
 have hB1:Boxed (w.alloc (.cells #[.slice none 0 0] 42)) B 9 (.string s):=hB.alloc _
 have hbel1:Below n₀ w0 (w.alloc (.cells #[.slice none 0 0] 42)):=hbel.alloc (Nat.le_trans hw0 hbel.size) _
 have hlen:=splitL_length_le s.data.toList
 have hlen2:(splitB s).length≤4000000000:=by
  unfold splitB;rw [List.length_map];rw [Array.length_toList] at hlen;exact Nat.le_trans hlen hsz
 gi_wp2
 refine wpIn_rangeFunc_cell rfl h1 (gf:=118) (lb:=#[.pointer (some ⟨B,0,none⟩)]) rfl trivial (enters_of Tryz.func118 (by kernel_rfl) rfl)
  (lines_seq (n-1) (by omega) B s hsz) hB1 (fun _=>rfl)
  (fun pre W=>(∃ v,Boxed W w.heap.size 42 v∧W.ownsRow w.heap.size 9 1 v pre.length (pre.map Value.string)∧True)∧Below n₀ w0 W∧w.heap.size≤W.heap.size)
  ?own ?setB ?drew ⟨⟨_,bO,World.ownsRow_nil _ _ _ _,trivial⟩,hbel1,by simp⟩
  (fun x=>{ tmps:=#[.slice none 0 0,.func (.func 118) #[] #[.pointer (some ⟨B,0,none⟩)],.pointer (some ⟨w.heap.size,0,none⟩),undef,.slice none 0 0,.string x,.func (.func 118) #[] #[.pointer (some ⟨B,0,none⟩)],.string x,undef,undef,undef,undef,undef],defers:=[] }) ?assign ?body ?done
 case own=>exact OwnFrom.and (Own.from (holdsRow_own w.heap.size w.heap.size 42 9 1 (fun pre:List ByteArray=>pre.length) (fun pre=>pre.map Value.string) (fun _ _=>True)) _) (OwnFrom.and (ownFrom_below hw0 (by have:=hbel.size;simp;omega)) (fun _ _ _ _ hs hg _=>Nat.le_trans hs hg.size))
 case setB =>
  rintro pre W v ⟨⟨u,hu,hr,_⟩,hb,hz⟩
  refine⟨⟨u,hu.kept (grownBy_setCell' W B v) (by simp;omega),ownsRow_setCell_below hr hBlt v,trivial⟩,hb.setCell (p:=⟨B,0,none⟩) h0B v,?_⟩
  simpa [World.setCell] using hz
 case drew =>
  rintro pre W ⟨⟨u,hu,hr,_⟩,hb,hz⟩
  exact⟨⟨u,hu,hr,trivial⟩,hb.drew,hz⟩
 case assign =>
  intro l x W K hK
  gi_wp2
  exact hK
 case body =>
  rintro l pre x W ⟨⟨v,hv,hrow,_⟩,hb,hz⟩ hlt
  have hc:=hv.cell
  gi_wp2_with (gi_at_builtin;refine wpListIn_append_own _ rfl _ _ 42 rfl w.heap.size 9 i0 (.string ⟨#[]⟩) 1 16 Tryz.underlying42 hi hz0 hz1 hz2 rfl (by decide) _ _ _ rfl (hrow.alloc _) ⟨W.heap.size,0,none⟩ 1 1 [.string x] rfl rfl (cell_one_new _ _ _) (by simp [Value.oneCell']) (by unfold maxLen;omega) (by omega) (by simp;omega) ?_;intro v' w1 hown' hgrow _;obtain⟨g',cap',rfl⟩:=ownsRow_succ hown';obtain⟨hv1,hv2,hr2,hk2,hb2⟩:=hv.appended (by decide) hrow hz (Nat.le_refl _) hown' hgrow;have hc1:=hv1.cell;have hf1:=hv1.frozen)
  exact⟨hk2.from _,hb2.block B hBlt,⟨_,hv2,hr2⟩,hb.trans (hb2.mono (Nat.le_trans h0B (Nat.le_of_lt hBlt))),by have:=hb2.size;simp [World.setCell] at this;omega⟩
 case done =>
  rintro D ys W hD rfl ⟨⟨v,hv,hrow,_⟩,hb,hz⟩ hK
  have hc:=hv.cell
  gi_wp2
  refine⟨by simp,.inl ⟨_,_,rfl,run_takeDeferred hK,?_⟩⟩
  have hrow':=ownsRow_putObj hrow (.deferred none) hK rfl
  exact⟨_,results_tmp rfl _ _ _,v,rfl,own_lower (Nat.le_trans h0B (Nat.le_of_lt hBlt)) hrow',hb.grown (grownBy_putObj' W D _) (Nat.le_trans hw0 hb.size) (fun k e=>by cases e;simp at hD;omega)⟩
set_option maxHeartbeats 1000000 in
theorem collect_in (n : Nat) (hn : 4≤n) (s : ByteArray) (hsz : s.size≤4000000000) (n₀ B : Nat) (w0 w : World) (h0B : n₀≤B) (hw0 : n₀≤w0.heap.size) (hbel : Below n₀ w0 w) (hB : Boxed w B 9 (.string s)) :
  CallsIn Fence.wide n Tryz.prog 80 #[.func (.func 118) #[] #[.pointer (some ⟨B,0,none⟩)]] w fun e W'=>∃ v,e = .returned v∧W'.ownsRow n₀ 9 1 v (splitB s).length ((splitB s).map Value.string)∧Below n₀ w0 W':=by
 refine callsIn_of_wp Tryz.func80 rfl trivial ?_ rfl
 simp only [Tryz.ntmps80,List.size_toArray,List.length_cons,List.length_nil,Nat.reduceAdd,Nat.reduceSub,Array.replicate_succ,Array.replicate_zero,List.push_toArray,List.append_toArray,List.nil_append,List.cons_append]
 have h1:1≤n:=by omega
 have hA:=appendSeq_in (n-1) (by omega) s hsz n₀ B w0 w h0B hw0 hbel hB
 have HA:=Lib.hid hA
 clear hA
 gi_wp2_with (refine⟨trivial,?_⟩;gi_at_call 117;refine HA.out.mono ?_;rintro e w' ⟨v,rfl,hr,hb⟩)
 go_ret
 exact⟨v,rfl,hr,hb⟩
set_option maxHeartbeats 1000000 in
theorem split_calls (s : ByteArray) (hsz : s.size≤4000000000) (w : World) :
  Calls Tryz.prog 40 #[.string s] w fun e w'=>∃ v,e = .returned v∧w'.ownsRow w.heap.size 9 1 v (splitB s).length ((splitB s).map Value.string)∧Below w.heap.size w w':=by
 refine (callsIn_wide (n:=9)).1 ?_
 refine callsIn_of_wp Tryz.func40 rfl trivial ?_ rfl
 simp only [Tryz.ntmps40,List.size_toArray,List.length_cons,List.length_nil,Nat.reduceAdd,Nat.reduceSub,Array.replicate_succ,Array.replicate_zero,List.push_toArray,List.append_toArray,List.nil_append,List.cons_append]
 have hC:=collect_in 8 (by omega) s hsz w.heap.size w.heap.size w _ (Nat.le_refl _) (Nat.le_refl _) ((Below.refl _ _).alloc (Nat.le_refl _) _) (Boxed.new w 9 (.string s))
 have HC:=Lib.hid hC
 clear hC
 gi_wp2_with (refine⟨trivial,?_⟩;first|(gi_at_call 81;refine (lines_in 8 s w).mono ?_;rintro e w' ⟨rfl,rfl⟩)|(gi_at_call 80;refine HC.out.mono ?_;rintro e w' ⟨v,rfl,hr,hb⟩))
 go_ret
 exact⟨v,rfl,hr,hb⟩
#print axioms split_calls
end Go.Proofs.YtfiamddinkokbaaGreat
end

section
namespace Go.Proofs.YtfiamddinkokbaaGreat
open Go.RowKit Go.Shelf Go.Proofs.YtfiamddinkokbaaGreatW.PrintWords
def cutL (c : UInt8) (l : List UInt8) : List UInt8 := l.dropWhile (· == c)
theorem cutL_eq (c : UInt8) (l : List UInt8) (k : Nat) (h : ∀ j,j<k→l[j]? = some c) (hk : ∀ x,l[k]? = some x→x≠c) : cutL c l=l.drop k := by
 induction k generalizing l with
 | zero =>
  cases l with
  | nil=>rfl
  | cons a t=>simp [cutL,hk a (by simp)]
 | succ k ih =>
  cases l with
  | nil=>simp [cutL]
  | cons a t =>
   have h0:a=c:=by have:=h 0 (by omega);simpa using this
   have:=ih t (fun j hj=>by have:=h (j+1) (by omega);simpa using this) (fun x hx=>hk x (by simpa using hx))
   simp only [cutL] at this ⊢
   simp [h0,this]
theorem getElem?_byte (s : ByteArray) (k : Nat) (h : k<s.size) : s.data.toList[k]? = some s[k] := by
 rw [List.getElem?_eq_getElem (by rw [Array.length_toList];exact h)];rfl
theorem iterPos_of {w : World} {k p : Nat} {s : ByteArray} (h : w.heap[k]? = some (.stringIter s p)) : w.iterPos k=p := by simp [World.iterPos,h]
set_option maxRecDepth 100000 in
set_option maxHeartbeats 2000000 in
theorem cutLeft_calls (s : ByteArray) (hsz : s.size≤4000000000) (c : UInt8) (hc : c.toNat<128) (w : World) :
  Calls Tryz.prog 128 #[.string s,.string ⟨#[c]⟩] w fun e w'=>e = .returned (.string (toB (cutL c s.data.toList)))∧Below w.heap.size w w':=by
 go_enter Tryz.func128,Tryz.ntmps128
 go_wp2
 go_loopw [5,6,7,9] (fun _ _ _ _ wr=>∃ k:Nat,k≤s.size∧wr.heap[w.heap.size]? = some (.stringIter s k)∧Below w.heap.size w wr∧Hid (∀ j,j<k→s.data.toList[j]? = some c))
  (fun _ _ _ _ wr=>s.size-wr.iterPos w.heap.size)
 case atStart=>exact⟨0,Nat.zero_le _,World.iter_heap _ _ _,(Below.refl _ _).alloc (Nat.le_refl _) _,fun j hj=>by omega⟩
 case round =>
  obtain⟨wo,rfl⟩:∃ wo:World,wo=wr:=⟨_,rfl⟩
  obtain⟨k,hk,hit,hb,HC⟩:=hrel
  have HB:=Lib.hid hb
  clear hb
  by_cases hlt:k<s.size
  ·by_cases heq:s[k]=c
   ·have hn:=Lib.run_next_ascii_at (P:=Tryz.prog) wo w.heap.size s k 0 hit hlt (by rw [heq];exact hc)
    rw [heq] at hn
    have hit2:(wo.iterAt w.heap.size s (k+1)).heap[w.heap.size]? = some (.stringIter s (k+1)):=Lib.iterAt_heap _ _ _ _ _ hit
    have HB2:Hid (Below w.heap.size w (wo.iterAt w.heap.size s (k+1))):=Lib.below_iterAt HB.out (Nat.le_refl _) _ _
    have hlt2:w.heap.size<(wo.iterAt w.heap.size s (k+1)).heap.size:=(Array.getElem?_eq_some_iff.1 hit2).1
    have HM:Hid (wo.iterPos w.heap.size=k):=iterPos_of hit
    have H2:=Lib.hid (And.intro hit2 (And.intro HB2.out hlt2))
    clear hit2 HB2 hlt2 hit
    go_wp2
    obtain⟨wm,hwm⟩:∃ wm:World,wm=wo.iterAt w.heap.size s (k+1):=⟨_,rfl⟩
    rw [←hwm] at H2 ⊢
    clear hwm hn
    go_loopw [7,9] (fun v7 _ wr=>∃ p:Nat,p≤1∧wr.heap[wm.heap.size]? = some (.stringIter ⟨#[c]⟩ p)∧Hid (wr.heap[w.heap.size]? = some (.stringIter s (k+1)))∧Hid (Below w.heap.size w wr)∧v7 = .bool (decide (p=1)))
     (fun _ _ wr=>1-wr.iterPos wm.heap.size)
    case atStart=>exact⟨0,by omega,World.iter_heap _ _ _,(Below.heap_alloc _ _ _ H2.out.2.2).trans H2.out.1,(H2.out.2.1.alloc (by have:=H2.out.2.2;omega) _),by rfl⟩
    case round =>
     obtain⟨p,hp,hit3,HI,HB3,rfl⟩:=hrel
     have hlt3:wm.heap.size<wr.heap.size:=(Array.getElem?_eq_some_iff.1 hit3).1
     by_cases hp0:p=0
     ·subst hp0
      have hn:=Lib.run_next_ascii_at (P:=Tryz.prog) wr wm.heap.size ⟨#[c]⟩ 0 0 hit3 (by show 0<1;omega) hc
      have hn2:(Instr.next (.pointer (some ⟨wm.heap.size,0,none⟩)) true 0).run Tryz.prog wr = .ok (.tuple #[.bool true,.int .i64 (0:Nat),.int .i32 c.toNat]) (wr.iterAt wm.heap.size ⟨#[c]⟩ 1):=hn
      clear hn
      have hit4:=Lib.iterAt_heap wr wm.heap.size ⟨#[c]⟩ 0 1 hit3
      have HI4:Hid ((wr.iterAt wm.heap.size ⟨#[c]⟩ 1).heap[w.heap.size]? = some (.stringIter s (k+1))):=(Lib.iterAt_other _ _ _ _ _ (by have:=H2.out.2.2;omega)).trans HI.out
      have HB4:Hid (Below w.heap.size w (wr.iterAt wm.heap.size ⟨#[c]⟩ 1)):=Lib.below_iterAt HB3.out (by have:=H2.out.2.2;omega) _ _
      have HP4:Hid ((wr.iterAt wm.heap.size ⟨#[c]⟩ 1).iterPos wm.heap.size=1):=iterPos_of hit4
      have HP3:Hid (wr.iterPos wm.heap.size=0):=iterPos_of hit3
      have HIT4:=Lib.hid hit4
      clear hit4 hit3
      go_wp2
      go_roundw
      case rel=>exact⟨1,by omega,HIT4.out,HI4,HB4,by simp⟩
      case measure=>rw [HP4.out,HP3.out];omega
     ·have hp1:p=1:=by omega
      subst hp1
      have hn:=Lib.run_next_end_at (P:=Tryz.prog) wr wm.heap.size ⟨#[c]⟩ 1 0 hit3 (by show ¬ 1<1;omega)
      clear hit3
      have HP5:Hid (wr.iterPos w.heap.size=k+1):=iterPos_of HI.out
      go_wp2
      go_roundw
      case rel =>
       refine⟨k+1,by omega,HI.out,HB3.out,fun j hj=>?_⟩
       by_cases hj2:j<k
       ·exact HC.out j hj2
       ·have:j=k:=by omega
        subst this
        rw [←heq];exact getElem?_byte s j hlt
      case measure=>rw [HP5.out,HM.out];omega
   ·have hn0:=Lib.run_next_any_at (P:=Tryz.prog) wo w.heap.size s k 0 hit hlt
    have hex:∃ r wd:Nat,r≠c.toNat∧r≤2147483647∧1≤wd∧(Instr.next (.pointer (some ⟨w.heap.size,0,none⟩)) true 0).run Tryz.prog wo = .ok (.tuple #[.bool true,.int .i64 k,.int .i32 r]) (wo.iterAt w.heap.size s (k+wd)):=by
     by_cases ha:(s[k]'hlt).toNat<128
     ·have hd:=decode_ascii s k hlt ha
      rw [hd] at hn0
      exact⟨_,_,fun e=>heq (UInt8.toNat_inj.1 e),by omega,Nat.le_refl _,hn0⟩
     ·have hd:=decode_high s k hlt (by omega)
      exact⟨_,_,by omega,decode_le s k,hd.2,hn0⟩
    clear hn0
    obtain⟨r,wd,hr1,hr2,hr3,hn⟩:=hex
    have hrc:((r:Int)==(c.toNat:Int))=false:=beq_eq_false_iff_ne.2 (by omega)
    have hit2:(wo.iterAt w.heap.size s (k+wd)).heap[w.heap.size]? = some (.stringIter s (k+wd)):=Lib.iterAt_heap _ _ _ _ _ hit
    have HB2:Hid (Below w.heap.size w (wo.iterAt w.heap.size s (k+wd))):=Lib.below_iterAt HB.out (Nat.le_refl _) _ _
    have hlt2:w.heap.size<(wo.iterAt w.heap.size s (k+wd)).heap.size:=(Array.getElem?_eq_some_iff.1 hit2).1
    have HM:Hid (wo.iterPos w.heap.size=k):=iterPos_of hit
    have H2:=Lib.hid (And.intro hit2 (And.intro HB2.out hlt2))
    clear hit2 HB2 hlt2 hit
    go_wp2
    obtain⟨wm,hwm⟩:∃ wm:World,wm=wo.iterAt w.heap.size s (k+wd):=⟨_,rfl⟩
    rw [←hwm] at H2 ⊢
    clear hwm hn
    go_loopw [7,9] (fun v7 _ wr=>∃ p:Nat,p≤1∧wr.heap[wm.heap.size]? = some (.stringIter ⟨#[c]⟩ p)∧Hid (wr.heap[w.heap.size]? = some (.stringIter s (k+wd)))∧Hid (Below w.heap.size w wr)∧v7 = .bool false)
     (fun _ _ wr=>1-wr.iterPos wm.heap.size)
    case atStart=>exact⟨0,by omega,World.iter_heap _ _ _,(Below.heap_alloc _ _ _ H2.out.2.2).trans H2.out.1,(H2.out.2.1.alloc (by have:=H2.out.2.2;omega) _),by rfl⟩
    case round =>
     obtain⟨p,hp,hit3,HI,HB3,rfl⟩:=hrel
     have hlt3:wm.heap.size<wr.heap.size:=(Array.getElem?_eq_some_iff.1 hit3).1
     by_cases hp0:p=0
     ·subst hp0
      have hn:=Lib.run_next_ascii_at (P:=Tryz.prog) wr wm.heap.size ⟨#[c]⟩ 0 0 hit3 (by show 0<1;omega) hc
      have hn2:(Instr.next (.pointer (some ⟨wm.heap.size,0,none⟩)) true 0).run Tryz.prog wr = .ok (.tuple #[.bool true,.int .i64 (0:Nat),.int .i32 c.toNat]) (wr.iterAt wm.heap.size ⟨#[c]⟩ 1):=hn
      clear hn
      have hit4:=Lib.iterAt_heap wr wm.heap.size ⟨#[c]⟩ 0 1 hit3
      have HI4:Hid ((wr.iterAt wm.heap.size ⟨#[c]⟩ 1).heap[w.heap.size]? = some (.stringIter s (k+wd))):=(Lib.iterAt_other _ _ _ _ _ (by have:=H2.out.2.2;omega)).trans HI.out
      have HB4:Hid (Below w.heap.size w (wr.iterAt wm.heap.size ⟨#[c]⟩ 1)):=Lib.below_iterAt HB3.out (by have:=H2.out.2.2;omega) _ _
      have HP4:Hid ((wr.iterAt wm.heap.size ⟨#[c]⟩ 1).iterPos wm.heap.size=1):=iterPos_of hit4
      have HP3:Hid (wr.iterPos wm.heap.size=0):=iterPos_of hit3
      have HIT4:=Lib.hid hit4
      clear hit4 hit3
      go_wp2
      go_roundw
      case rel=>exact⟨1,by omega,HIT4.out,HI4,HB4,rfl⟩
      case measure=>rw [HP4.out,HP3.out];omega
     ·have hp1:p=1:=by omega
      subst hp1
      have hn:=Lib.run_next_end_at (P:=Tryz.prog) wr wm.heap.size ⟨#[c]⟩ 1 0 hit3 (by show ¬ 1<1;omega)
      clear hit3
      go_wp2
      go_ret
      refine⟨?_,HB3.out⟩
      have hend:∀ x,s.data.toList[k]? = some x→x≠c:=fun x hx e=>by
       rw [getElem?_byte s k hlt] at hx
       exact heq ((Option.some.inj hx).trans e)
      rw [cutL_eq c s.data.toList k HC.out hend,←Lib.extract_to_end,toB_data]
      rfl
  ·have hk2:k=s.size:=by omega
   subst hk2
   have hn:=Lib.run_next_end_at (P:=Tryz.prog) wo w.heap.size s s.size 0 hit hlt
   clear hit
   go_wp2
   go_ret
   refine⟨?_,HB.out⟩
   have hend:∀ x,s.data.toList[s.size]? = some x→x≠c:=fun x hx _=>by
    have:=(List.getElem?_eq_some_iff.1 hx).1
    rw [Array.length_toList] at this
    exact absurd this (Nat.lt_irrefl _)
   rw [cutL_eq c s.data.toList s.size HC.out hend,List.drop_of_length_le (by rw [Array.length_toList];exact Nat.le_refl _)]
   rfl
def isSign (c : UInt8) : Bool := c==60||c==124||c==61||c==62
def runL (l : List UInt8) : Nat := match l with
 | []=>0
 | c::_=>if isSign c then l.length-(cutL c l).length else 0
theorem cutL_le (c : UInt8) (l : List UInt8) : (cutL c l).length≤l.length := by
 have:=(List.dropWhile_sublist (l:=l) (fun x=>x==c)).length_le
 exact this
theorem runL_le (l : List UInt8) : runL l≤l.length := by
 unfold runL
 split
 ·simp
 ·split<;>omega
theorem sign_index (c : UInt8) : decide (0≤Lib.indexByte [60,124,61,62] c)=isSign c := by
 unfold isSign
 simp only [Lib.indexByte]
 by_cases h1:c=60
 ·subst h1;decide
 ·by_cases h2:c=124
  ·subst h2;decide
  ·by_cases h3:c=61
   ·subst h3;decide
   ·by_cases h4:c=62
    ·subst h4;decide
    ·simp [h1,h2,h3,h4,Ne.symm h1,Ne.symm h2,Ne.symm h3,Ne.symm h4]
set_option maxRecDepth 100000 in
set_option maxHeartbeats 2000000 in
theorem run_calls (s : ByteArray) (hsz : s.size≤4000000000) (w : World) :
  Calls Tryz.prog 98 #[.string s] w fun e w'=>e = .returned (.int .i64 (runL s.data.toList))∧Below w.heap.size w w':=by
 by_cases h0:s.size=0
 ·have hs:s=⟨#[]⟩:=by
   have:s.data.toList=[]:=List.eq_nil_of_length_eq_zero (by rw [Array.length_toList];exact h0)
   rw [←toB_data s,this];rfl
  subst hs
  go_enter Tryz.func98,Tryz.ntmps98
  go_wp2
  go_ret
  exact⟨rfl,Below.refl _ _⟩
 ·obtain⟨c,t,hl⟩:∃ c t,s.data.toList=c::t:=by
   cases h:s.data.toList with
   | nil=>exact absurd (by have:=congrArg List.length h;rw [Array.length_toList] at this;exact this) h0
   | cons c t=>exact⟨c,t,rfl⟩
  have hex:s.extract 0 1=⟨#[c]⟩:=by
   rw [←toB_data (s.extract 0 1),Lib.extract_data,hl];rfl
  have hne:(s.toList==([]:List UInt8))=false:=by rw [Lib.toList_data,hl];rfl
  have hne2:s.toList.isEmpty=false:=by rw [Lib.toList_data,hl];rfl
  have HL:=Lib.hid hl
  clear hl
  have hcon:=Tryz.strings_Contains_one ⟨#[60,124,61,62]⟩ c w
  rw [show (⟨#[60,124,61,62]⟩:ByteArray).data.toList=[60,124,61,62] from rfl,sign_index] at hcon
  have hsz1:(1:Int)≤s.size:=by omega
  by_cases hsg:isSign c=true
  ·rw [hsg] at hcon
   have hc:c.toNat<128:=by
    simp only [isSign,Bool.or_eq_true,beq_iff_eq] at hsg
    rcases hsg with ((rfl|rfl)|rfl)|rfl<;>decide
   have HS:=Lib.hid hsg
   have HCON:=Lib.hid hcon
   have hcut:=cutLeft_calls s hsz c hc w
   have HCUT:=Lib.hid hcut
   clear hsg hcon hcut
   go_enter Tryz.func98,Tryz.ntmps98
   go_wp2_with (first|(go_at_call 116;refine HCON.out.mono ?_;rintro e w' ⟨rfl,rfl⟩)|(go_at_call 128;refine HCUT.out.mono ?_;rintro e w' ⟨rfl,hb⟩))
   go_ret
   refine⟨?_,hb⟩
   have e:wrap64 ((s.size:Int)-(cutL c s.data.toList).length)=((s.data.toList.length-(cutL c s.data.toList).length:Nat):Int):=by
    have:=cutL_le c s.data.toList
    have h2:s.data.toList.length=s.size:=by rw [Array.length_toList];rfl
    unfold wrap64;omega
   have HE:=HS.out
   unfold runL
   rw [e]
   simp only [HL.out,HE,if_true]
   rfl
  ·have hsg0:isSign c=false:=by simpa using hsg
   rw [hsg0] at hcon
   have HS:=Lib.hid hsg0
   have HCON:=Lib.hid hcon
   clear hsg hsg0 hcon
   go_enter Tryz.func98,Tryz.ntmps98
   go_wp2_with (first|(go_at_call 116;refine HCON.out.mono ?_;rintro e w' ⟨rfl,rfl⟩))
   go_ret
   refine⟨?_,Below.refl _ _⟩
   have HE:=HS.out
   unfold runL
   simp only [HL.out,HE]
   rfl
#print axioms run_calls
theorem ext_split (a0 : ByteArray) (r : List ByteArray) (w : World) (h : (if a0.size≤4000000000 then some (splitB a0) else none)=some r) :
  Calls Tryz.prog 40 #[.string a0] w fun e w'=>∃ v0_:Value,e = .returned (v0_)∧Kd.R Kd.string 9 w' w.heap.size (fun _=>True) v0_ r∧Below w.heap.size w w':=by
 by_cases hs:a0.size≤4000000000
 ·rw [if_pos hs] at h
  obtain rfl:=Option.some.inj h
  refine (split_calls a0 hs w).mono ?_
  rintro e w' ⟨v,rfl,hr,hb⟩
  exact⟨v,rfl,Kd.R_of_own hr (fun _ _=>trivial),hb⟩
 ·rw [if_neg hs] at h;cases h
theorem ext_run (a0 : ByteArray) (r : Int) (w : World) (h : (if a0.size≤4000000000 then some ((runL a0.data.toList : Nat) : Int) else none)=some r) :
  Calls Tryz.prog 98 #[.string a0] w fun e w'=>e = .returned (.int .i64 r)∧Below w.heap.size w w':=by
 by_cases hs:a0.size≤4000000000
 ·rw [if_pos hs] at h
  obtain rfl:=Option.some.inj h
  exact run_calls a0 hs w
 ·rw [if_neg hs] at h;cases h
theorem one_byte (a : ByteArray) (h : a.size=1) : a=⟨#[a.data.toList.headD 0]⟩ := by
 have hl:a.data.toList.length=1:=by rw [Array.length_toList];exact h
 obtain⟨c,hc⟩:∃ c,a.data.toList=[c]:=List.length_eq_one_iff.1 hl
 rw [←toB_data a,hc];rfl
theorem ext_contains (a0 a1 : ByteArray) (r : Bool) (w : World) (h : (if a1.size=1 then some (decide (0≤Lib.indexByte a0.data.toList (a1.data.toList.headD 0))) else none)=some r) :
  Calls Tryz.prog 116 #[.string a0,.string a1] w fun e w'=>e = .returned (.bool r)∧Drawn0 w w':=by
 by_cases hs:a1.size=1
 ·rw [if_pos hs] at h
  obtain rfl:=Option.some.inj h
  have:=Tryz.strings_Contains_one a0 (a1.data.toList.headD 0) w
  rw [←one_byte a1 hs] at this
  refine this.mono ?_
  rintro e w' ⟨rfl,rfl⟩
  exact⟨rfl,Drawn0.refl _⟩
 ·rw [if_neg hs] at h;cases h
theorem C_string_cells {w : World} {A : Option Addr} {xs : List ByteArray} (h : Kd.C Kd.string w A xs.length xs) (hn : 0<xs.length) :
  ∃ b o,A=some ⟨b,o,none⟩∧b<w.heap.size∧∀ j x,xs[j]? = some x→w.cell? ⟨b,o+j,none⟩=some (.string x):=by
 obtain⟨ad,rfl,hc⟩:=h.2.2 hn
 have h0:∀ j x,xs[j]? = some x→w.cell? (ad.add j)=some (.string x):=by
  intro j x hj
  obtain⟨c,hl,hk,hcell⟩:=hc j x hj
  have hk':c=[Value.string x]:=hk
  have:=hcell 0 (.string x) (by rw [hk'];rfl)
  simpa [show (Kd.string).sz=1 from rfl] using this
 obtain⟨x0,hx0⟩:∃ x,xs[0]? = some x:=⟨_,List.getElem?_eq_getElem hn⟩
 obtain⟨b,o,sp⟩:=ad
 have hcell0:=h0 0 x0 hx0
 have hsp:sp=none:=by
  cases sp with
  | none=>rfl
  | some q =>
   exfalso
   simp [Addr.add,World.cell?] at hcell0
   split at hcell0<;>simp_all
 subst hsp
 refine⟨b,o,rfl,World.block_lt_of_cell? w _ hcell0,fun j x hj=>?_⟩
 have:=h0 j x hj
 unfold Addr.add at this
 split at this
 ·rename_i hj0;subst hj0;exact this
 ·exact this
def joinB (l : List ByteArray) (sep : ByteArray) : ByteArray := toB (Lib.join (l.map (·.data.toList)) sep.data.toList)
theorem ext_join (A0 : Option Addr) (c0 : Nat) (l0 : List ByteArray) (a1 : ByteArray) (r : ByteArray) (w : World) (hr0 : Kd.C Kd.string w A0 l0.length l0) (hc0 : l0.length≤c0)
  (h:(if l0.length≤140737488355328∧(joinB l0 a1).size≤140737488355328 then some (joinB l0 a1) else none)=some r) :
  Calls Tryz.prog 155 #[.slice A0 l0.length c0,.string a1] w fun e w'=>e = .returned (.string r)∧Below w.heap.size w w':=by
 by_cases hs:l0.length≤140737488355328∧(joinB l0 a1).size≤140737488355328
 ·rw [if_pos hs] at h
  obtain rfl:=Option.some.inj h
  obtain⟨h1,h2⟩:=hs
  rw [joinB,toB_size] at h2
  by_cases hn:l0.length=0
  ·have hnil:l0=[]:=List.eq_nil_of_length_eq_zero hn
   subst hnil
   refine (Tryz.strings_Join_none A0 c0 a1 w).mono ?_
   rintro e w' ⟨rfl,rfl⟩
   exact⟨rfl,Below.refl _ _⟩
  ·obtain⟨b,o,rfl,hb,hcell⟩:=C_string_cells hr0 (by omega)
   refine (Tryz.strings_Join b o c0 l0 a1 w hcell hb h1 hc0 h2).mono ?_
   rintro e w' ⟨rfl,hb⟩
   exact⟨rfl,hb⟩
 ·rw [if_neg hs] at h;cases h
theorem ext_clone (A0 : Option Addr) (c0 : Nat) (l0 : List ByteArray) (r : List ByteArray) (w : World) (hr0 : Kd.C Kd.string w A0 l0.length l0) (hc0 : l0.length≤c0)
  (h:(if l0.length≤4000000000 then some l0 else none)=some r) :
  Calls Tryz.prog 144 #[.slice A0 l0.length c0] w fun e w'=>∃ v0_:Value,e = .returned (v0_)∧Kd.R Kd.string 9 w' w.heap.size (fun _=>True) v0_ r∧Below w.heap.size w w':=by
 by_cases hs:l0.length≤4000000000
 ·rw [if_pos hs] at h
  obtain rfl:=Option.some.inj h
  by_cases hn:l0.length=0
  ·have hnil:l0=[]:=List.eq_nil_of_length_eq_zero hn
   subst hnil
   cases A0 with
   | none =>
    refine (Tryz.slices_Clone_string_nil 0 c0 w).mono ?_
    rintro e w' ⟨rfl,rfl⟩
    exact⟨_,rfl,Kd.R_nil _ _ _ _ _,Below.refl _ _⟩
   | some a =>
    refine (Tryz.slices_Clone_string_zero a c0 w).mono ?_
    rintro e w' ⟨v,rfl,hr,_,hb⟩
    exact⟨_,rfl,Kd.R_of_own hr (fun _ _=>trivial),hb⟩
  ·obtain⟨b,o,rfl,hb,hcell⟩:=C_string_cells hr0 (by omega)
   refine (Tryz.slices_Clone_string b o l0.length c0 l0 w (Nat.le_refl _) (by omega) (fun j hj=>?_)).mono ?_
   ·rw [List.getD_eq_getElem?_getD,List.getElem?_eq_getElem hj]
    exact hcell j _ (List.getElem?_eq_getElem hj)
   ·rintro e w' ⟨v,rfl,hr,_,hb⟩
    rw [List.take_length] at hr
    exact⟨_,rfl,Kd.R_of_own hr (fun _ _=>trivial),hb⟩
 ·rw [if_neg hs] at h;cases h
end Go.Proofs.YtfiamddinkokbaaGreat
end

section
namespace Go.Proofs.YtfiamddinkokbaaGreat
open Go.RowKit Go.Shelf Go.Maps Go.Proofs.YtfiamddinkokbaaGreatW.PrintWords
def numStep (kn : List (List UInt8)) (s : ByteArray) : List (List UInt8) := if s.data.toList∈kn then kn else kn++[s.data.toList]
def numOf (kn : List (List UInt8)) (s : ByteArray) : Int := (kn.idxOf s.data.toList : Nat)
def numRow : List (List UInt8)→List ByteArray→List Int
 | _,[]=>[]
 | kn,s::t=>numOf kn s::numRow (numStep kn s) t
def knRow (kn : List (List UInt8)) (l : List ByteArray) : List (List UInt8) := l.foldl numStep kn
def numAll : List (List UInt8)→List (List ByteArray)→List (List Int)
 | _,[]=>[]
 | kn,f::t=>numRow kn f::numAll (knRow kn f) t
def knAll (kn : List (List UInt8)) (fs : List (List ByteArray)) : List (List UInt8) := fs.foldl knRow kn
def numberB (fs : List (List ByteArray)) : List (List Int) := numAll [] fs
theorem numRow_snoc (kn : List (List UInt8)) (l : List ByteArray) (s : ByteArray) : numRow kn (l++[s])=numRow kn l++[numOf (knRow kn l) s] := by
 induction l generalizing kn with
 | nil=>rfl
 | cons a t ih=>simp only [List.cons_append,numRow,knRow,List.foldl_cons];rw [ih];rfl
theorem knRow_snoc (kn : List (List UInt8)) (l : List ByteArray) (s : ByteArray) : knRow kn (l++[s])=numStep (knRow kn l) s := by simp [knRow]
theorem numAll_snoc (kn : List (List UInt8)) (fs : List (List ByteArray)) (f : List ByteArray) : numAll kn (fs++[f])=numAll kn fs++[numRow (knAll kn fs) f] := by
 induction fs generalizing kn with
 | nil=>rfl
 | cons a t ih=>simp only [List.cons_append,numAll,knAll,List.foldl_cons];rw [ih];rfl
theorem knAll_snoc (kn : List (List UInt8)) (fs : List (List ByteArray)) (f : List ByteArray) : knAll kn (fs++[f])=knRow (knAll kn fs) f := by simp [knAll]
theorem numRow_length (kn : List (List UInt8)) (l : List ByteArray) : (numRow kn l).length=l.length := by
 induction l generalizing kn with
 | nil=>rfl
 | cons a t ih=>simp [numRow,ih]
theorem numAll_length (kn : List (List UInt8)) (fs : List (List ByteArray)) : (numAll kn fs).length=fs.length := by
 induction fs generalizing kn with
 | nil=>rfl
 | cons a t ih=>simp [numAll,ih]
def Knows (D : DataW Unit) (kn : List (List UInt8)) : Prop :=
 Maps.Tidy D∧Maps.size D=kn.length∧∀ s:List UInt8,Maps.has D (.string s)=decide (s∈kn)∧(s∈kn→D.atKey (.string s) (.lit (.int .i64 0)) = .lit (.int .i64 (kn.idxOf s:Nat)))
theorem knows_nil : Knows (.map []) [] := ⟨Maps.tidy_empty,rfl,fun s=>⟨by simp [Maps.has],fun h=>by simp at h⟩⟩
theorem knows_put {D : DataW Unit} {kn : List (List UInt8)} (h : Knows D kn) (s : List UInt8) (hs : s∉kn) : Knows (D.put (.string s) (.lit (.int .i64 (kn.length : Nat)))) (kn++[s]) := by
 obtain⟨h1,h2,h3⟩:=h
 have hh:=(h3 s).1
 rw [decide_eq_false hs] at hh
 have hk:WideAt.IsKeyLit (.string s):=trivial
 refine⟨h1.put hk _,?_,fun t=>?_⟩
 ·rw [Maps.size_put h1,hh,h2];simp
 ·by_cases ht:t=s
  ·subst ht
   refine⟨?_,fun _=>?_⟩
   ·rw [Maps.has_put_same h1.isMap hk];simp
   ·rw [Maps.atKey_put_same h1.isMap hk]
    rw [List.idxOf_append,if_neg hs];simp
  ·have hne:(Lit.string t) ≠ .string s:=fun e=>ht (by injection e)
   refine⟨?_,fun hm=>?_⟩
   ·rw [Maps.has_put_other hne,(h3 t).1];simp [ht]
   ·rw [Maps.atKey_put_other hne]
    have hm':t∈kn:=by simpa [ht] using hm
    rw [(h3 t).2 hm',List.idxOf_append,if_pos hm']
theorem num_keyed : Maps.Keyed Tryz.prog 9 := Maps.string_keyed Tryz.underlying9
theorem num_zero (w : World) : (zeroValue 3).run Tryz.prog w = .ok (.int .i64 0) w := by kernel_rfl
theorem num_info3 : (Tryz.prog.info? 3).map (fun i=>(i.zero,i.size,i.bytes))=some (some (.int .i64 0),1,8) := by kernel_rfl
theorem num_info50 : (Tryz.prog.info? 48).map (fun i=>(i.zero,i.size,i.bytes))=some (some (.slice none 0 0),1,24) := by kernel_rfl
def total (fs : List (List ByteArray)) : Nat := (fs.map List.length).sum
set_option maxRecDepth 100000 in
set_option maxHeartbeats 4000000 in
theorem number_calls (A0 : Option Addr) (c0 : Nat) (l0 : List (List ByteArray)) (w : World) (hr0 : Kd.C (Kd.slice 9 Kd.string) w A0 l0.length l0) (hc0 : l0.length≤c0) (hsz : ∀ f∈l0,∀ s∈f,s.size≤4000000000) (ht : total l0≤4000000000) (hl0 : l0.length≤4000000000) :
  Calls Tryz.prog 82 #[.slice A0 l0.length c0] w fun e w'=>∃ v0_:Value,e = .returned (v0_)∧Kd.S (Kd.slice 3 (Kd.int .i64)) 48 w' w.heap.size (fun _=>True) v0_ (numberB l0)∧Below w.heap.size w w':=by
 have hmm:=@run_makeMap Tryz.prog
 go_enter Tryz.func82,Tryz.ntmps82
 go_wp2
 go_loopw [4,15] (fun v4 v15 wr=>∃ i:Nat,i≤l0.length∧v15 = .int .i64 i∧Aside0 (Kd.S (Kd.slice 3 (Kd.int .i64)) 48 wr w.heap.size (fun k=>k≠w.heap.size) v4 (numAll [] (l0.take i)))∧Aside0 (∃ D:DataW Unit,wr.ownsMap Tryz.prog 9 (plainElem Tryz.prog 3) w.heap.size (total (l0.take i)) D∧Knows D (knAll [] (l0.take i)))∧Aside0 (Below w.heap.size w wr))
  (fun _ v15 _=>l0.length-(intOf v15).toNat)
 case atStart =>
  exact⟨0,Nat.zero_le _,rfl,⟨Kd.S_nil _ _ _ _ _⟩,⟨.map [],World.ownsMap_made _ _ _ _,knows_nil⟩,⟨(Below.refl _ _).alloc (Nat.le_refl _) _⟩⟩
 case round =>
  obtain⟨i,hi,rfl,HS,HM,HB⟩:=hrel
  by_cases hlt:i<l0.length
  ·obtain⟨f,hf⟩:∃ f,l0[i]? = some f:=⟨_,List.getElem?_eq_getElem hlt⟩
   obtain⟨ad,rfl,hc⟩:=hr0.2.2 (by omega)
   obtain⟨c,hcl,hck,hcell⟩:=hc i f hf
   obtain⟨Ai,ci,rfl,hfc,hfr⟩:=hck
   have hcw:w.cell? (ad.add i)=some (.slice Ai f.length ci):=by
    have:=hcell 0 _ rfl
    simpa [show (Kd.slice 9 Kd.string).sz=1 from rfl] using this
   have hcr:wr.cell? (ad.add i)=some (.slice Ai f.length ci):=(HB.out.cell (World.block_lt_of_cell? w _ hcw)).trans hcw
   have htk:l0.take (i+1)=l0.take i++[f]:=by rw [List.take_add_one,hf];rfl
   have hft:total (l0.take i)+f.length≤total l0:=by
    have h1:total (l0.take (i+1))=total (l0.take i)+f.length:=by rw [htk];simp [total]
    have h2:total (l0.take (i+1))+total (l0.drop (i+1))=total l0:=by
     unfold total;rw [←List.sum_append,←List.map_append,List.take_append_drop]
    omega
   have HTK:=Lib.hid htk
   have HC:=Lib.hid hc
   have HF:=Lib.hid hf
   have HCELL:=Lib.hid hcell
   have HFR:=Aside0.mk hfr
   have HW:=Aside0.mk hcw
   have hl1:((l0.take i).map List.length).sum=total (l0.take i):=rfl
   clear htk hc hf hcell hfr hcw hl1
   go_wp2
   obtain⟨wo,rfl⟩:∃ wo:World,wo=wr:=⟨_,rfl⟩
   go_loopw [7,21] (fun v7 v21 wr=>∃ j:Nat,j≤f.length∧v21 = .int .i64 j∧Aside0 (Kd.R (Kd.int .i64) 3 wr w.heap.size (fun k=>k≠w.heap.size) v7 (numRow (knAll [] (l0.take i)) (f.take j))) ∧
     Aside0 (Kd.S (Kd.slice 3 (Kd.int .i64)) 48 wr w.heap.size (fun k=>k≠w.heap.size∧some k≠v7.ownBlock) u4 (numAll [] (l0.take i))) ∧
     Aside0 (∃ D:DataW Unit,wr.ownsMap Tryz.prog 9 (plainElem Tryz.prog 3) w.heap.size (total (l0.take i)+j) D∧Knows D (knRow (knAll [] (l0.take i)) (f.take j)))∧Aside0 (Below w.heap.size w wr))
    (fun _ v21 _=>f.length-(intOf v21).toNat)
   case atStart =>
    exact⟨0,Nat.zero_le _,rfl,⟨Kd.R_nil _ _ _ _ _⟩,⟨Kd.S_mono HS.out (fun k hk=>⟨hk,by simp [Value.ownBlock]⟩)⟩,HM,HB⟩
   case round =>
    obtain⟨j,hj,rfl,HR,HS2,HM2,HB2⟩:=hrel
    by_cases hjt:j<f.length
    ·obtain⟨s,hs⟩:∃ s,f[j]? = some s:=⟨_,List.getElem?_eq_getElem hjt⟩
     have hss:s.size≤4000000000:=hsz f (List.mem_of_getElem? HF.out) s (List.mem_of_getElem? hs)
     obtain⟨adi,rfl,hci⟩:=HFR.out.2.2 (by omega)
     obtain⟨ci2,_,hck2,hcell2⟩:=hci j s hs
     have hck3:ci2=[Value.string s]:=hck2
     subst hck3
     have hsw:w.cell? (adi.add j)=some (.string s):=by
      have:=hcell2 0 _ rfl
      simpa [show (Kd.string).sz=1 from rfl] using this
     have hsr:wr.cell? (adi.add j)=some (.string s):=(HB2.out.cell (World.block_lt_of_cell? w _ hsw)).trans hsw
     have hcr2:wr.cell? (ad.add i)=some (.slice (some adi) f.length ci):=(HB2.out.cell (World.block_lt_of_cell? w _ HW.out)).trans HW.out
     have htj:f.take (j+1)=f.take j++[s]:=by rw [List.take_add_one,hs];rfl
     have HTJ:=Lib.hid htj
     have HSS:=Lib.hid hs
     obtain⟨D,hown,hkn⟩:=HM2.out
     have HKN:=Aside0.mk hkn
     have hkey:=WideMaps.keyOf_string_mk (P:=Tryz.prog) Tryz.underlying9 (s:=s) (by unfold maxLen;omega)
     have hnew:w.heap.size<wr.heap.size:=hown.lt
     by_cases hm:s.data.toList∈knRow (knAll [] (l0.take i)) (f.take j)
     ·have hhas:Maps.has D (.string s.data.toList)=true:=by rw [(hkn.2.2 _).1];exact decide_eq_true hm
      have HAT:=Lib.hid ((hkn.2.2 _).2 hm)
      have HMEM:=Lib.hid hm
      clear htj hs hsw hci hcell2 hck2 hkn hm
      have hne:some w.heap.size≠u7.ownBlock:=fun e=>HR.out.1 _ e.symm rfl
      have hrl:(numRow (knAll [] (l0.take i)) (f.take j)).length≤4000000000:=by rw [numRow_length,List.length_take];omega
      go_wp2_with (first|(at_lookup;refine wpList_lookup_own_ok_int _ rfl _ _ 191 rfl 9 3 .i64 num_keyed Tryz.underlying191 Tryz.underlying3 (num_zero _) w.heap.size _ D rfl hown _ _ rfl hkey ?_;intro c hat hwc;rw [HAT.out] at hat;injection hat with hat;injection hat with _ hat;have HCC:=Lib.hid hat;clear hat hwc)|(at_builtin;refine Kd.R_append (Kd.int .i64) (w0:=w) w.heap.size rfl (.tmp 38) (.tmp 40) 48 3 (.int .i64 0) 8 rfl Tryz.underlying48 num_info3 rfl (by decide) (by omega) u7 (numRow (knAll [] (l0.take i)) (f.take j)) c [.int .i64 c] (fun k=>k≠w.heap.size) (fun _=>False) rfl rfl rfl (fun _ hk=>hk.elim) (fun k hk=>by omega) HR.out HB2.out HB2.out.size (by omega) ?_;intro v1 w1 ho hb hg hat;have HO:=Aside0.mk ho;have HB3:=Aside0.mk hb;have HS3:=Aside0.mk (Kd.S_after HS2.out hg hat);have HM3:=Aside0.mk (hown.kept hg hne);clear ho hb hg hat))
      go_roundw
      case rel =>
       refine⟨j+1,by omega,by go_num,⟨?_⟩,HS3,⟨D,?_,?_⟩,HB3⟩
       ·rw [HTJ.out,numRow_snoc,numOf,HCC.out];exact HO.out
       ·exact HM3.out.mono (by omega)
       ·rw [HTJ.out,knRow_snoc,numStep,if_pos HMEM.out];exact HKN.out
      case measure=>simp [intOf];omega
     ·have hhas:Maps.has D (.string s.data.toList)=false:=by rw [(hkn.2.2 _).1];exact decide_eq_false hm
      have hsize:=hkn.2.1
      have hput:=Aside0.mk (knows_put hkn _ hm)
      have HMEM:=Lib.hid hm
      have hknl:(knRow (knAll [] (l0.take i)) (f.take j)).length≤total (l0.take i)+j:=by
       rw [←hsize];exact hown.size_le
      have hszb:Maps.size D≤4000000000:=by omega
      have HSZ:=Lib.hid hsize
      have hwf:(Lit.int .i64 (Maps.size D:Int)).wf=true:=WalkArith.wf_i64 (by omega)
      clear htj hs hsw hci hcell2 hck2 hkn hm hsize
      have hne:some w.heap.size≠u7.ownBlock:=fun e=>HR.out.1 _ e.symm rfl
      have hrl:(numRow (knAll [] (l0.take i)) (f.take j)).length≤4000000000:=by rw [numRow_length,List.length_take];omega
      go_wp2_with (first|(at_lookup;refine wpList_lookup_own_ok_int _ rfl _ _ 191 rfl 9 3 .i64 num_keyed Tryz.underlying191 Tryz.underlying3 (num_zero _) w.heap.size _ D rfl hown _ _ rfl hkey ?_;intro c hat hwc;clear hat hwc)|(at_len;refine wpList_len_own _ rfl _ 191 rfl 9 3 Tryz.underlying191 (plainElem Tryz.prog 3) w.heap.size _ D rfl hown ?_)|(at_mapUpdate;refine wpList_mapUpdate_own _ rfl _ _ _ 191 rfl 9 3 num_keyed Tryz.underlying191 (plainElem Tryz.prog 3) w.heap.size _ D rfl hown (by unfold maxLen;omega) _ _ _ rfl rfl hkey _ [] (plainElem_int Tryz.underlying3 hwf) ?_;intro w5 hown5 hgrow5;have HM5:=Aside0.mk hown5;have HR5:=Aside0.mk (Kd.R_grown HR.out hgrow5 (fun k hk e=>hk (Option.some.inj e)));have HS5:=Aside0.mk (Kd.S_grown HS2.out hgrow5 (fun k hk e=>hk.1 (Option.some.inj e)));have HB5:=Aside0.mk (HB2.out.grown hgrow5 HB2.out.size (fun k e=>by cases e;exact Nat.le_refl _));have hnew5:=hown5.lt;clear hown5 hgrow5)|(at_builtin;refine Kd.R_append (Kd.int .i64) (w0:=w) w.heap.size rfl (.tmp 38) (.tmp 40) 48 3 (.int .i64 0) 8 rfl Tryz.underlying48 num_info3 rfl (by decide) (by omega) u7 (numRow (knAll [] (l0.take i)) (f.take j)) (Maps.size D:Int) [.int .i64 (Maps.size D:Int)] (fun k=>k≠w.heap.size) (fun _=>False) rfl rfl rfl (fun _ hk=>hk.elim) (fun k hk=>by omega) HR5.out HB5.out HB5.out.size (by omega) ?_;intro v1 w1 ho hb hg hat;have HO:=Aside0.mk ho;have HB3:=Aside0.mk hb;have HS3:=Aside0.mk (Kd.S_after HS5.out hg hat);have HM3:=Aside0.mk (HM5.out.kept hg hne);clear ho hb hg hat))
      go_roundw
      case rel =>
       refine⟨j+1,by omega,by go_num,⟨?_⟩,HS3,⟨_,HM3.out,?_⟩,HB3⟩
       ·rw [HTJ.out,numRow_snoc,numOf,List.idxOf_eq_length HMEM.out,←HSZ.out];exact HO.out
       ·rw [HTJ.out,knRow_snoc,numStep,if_neg HMEM.out,HSZ.out];exact hput.out
      case measure=>simp [intOf];omega
    ·have hjf:j=f.length:=by omega
     subst hjf
     rw [List.take_length] at HR HM2
     obtain⟨Ao,co,eo⟩:=Kd.R_slice HR.out
     subst eo
     obtain⟨D,hown,hkn⟩:=HM2.out
     have HKN:=Aside0.mk hkn
     have hne:some w.heap.size≠u4.ownBlock:=fun e=>((Kd.S_R HS2.out).1 _ e.symm).1 rfl
     have hol:(numAll [] (l0.take i)).length≤4000000000:=by rw [numAll_length,List.length_take];omega
     have HP:=Aside0.mk (show (Kd.slice 3 (Kd.int .i64)).M wr w.heap.size (fun k=>some k=(Value.slice Ao (numRow (knAll [] (l0.take i)) f).length co).ownBlock) (numRow (knAll [] (l0.take i)) f) [.slice Ao (numRow (knAll [] (l0.take i)) f).length co] from ⟨_,rfl,fun k hk=>hk.symm,HR.out.2⟩)
     have HK:=Aside0.mk (show ∀ k,some k=(Value.slice Ao (numRow (knAll [] (l0.take i)) f).length co).ownBlock→k≠w.heap.size∧some k≠u4.ownBlock from fun k hk=>⟨HR.out.1 k hk.symm,fun e=>((Kd.S_R HS2.out).1 k e.symm).2 hk⟩)
     have HO5:=Aside0.mk (Kd.S_mono HS2.out (ok':=fun k=>k≠w.heap.size∧¬ (some k=(Value.slice Ao (numRow (knAll [] (l0.take i)) f).length co).ownBlock)) (fun k hk=>⟨hk.1,fun e=>hk.2 e⟩))
     have hnew:w.heap.size<wr.heap.size:=hown.lt
     clear hkn
     go_wp2_with (at_builtin;refine Kd.S_append (Kd.slice 3 (Kd.int .i64)) (w0:=w) w.heap.size rfl (.tmp 43) (.tmp 45) 44 48 (.slice none 0 0) 24 rfl Tryz.underlying44 num_info50 rfl (by decide) (by omega) u4 (numAll [] (l0.take i)) (numRow (knAll [] (l0.take i)) f) [.slice Ao (numRow (knAll [] (l0.take i)) f).length co] (fun k=>k≠w.heap.size) (fun k=>some k=(Value.slice Ao (numRow (knAll [] (l0.take i)) f).length co).ownBlock) rfl rfl HP.out HK.out (fun k hk=>by omega) HO5.out HB2.out HB2.out.size (by omega) ?_;intro v1 w1 ho hb hg hat;have HO:=Aside0.mk ho;have HB3:=Aside0.mk hb;have HM3:=Aside0.mk (hown.kept hg hne);clear ho hb hg hat)
     go_roundw
     case rel =>
      refine⟨i+1,by omega,by go_num,⟨?_⟩,⟨D,?_,?_⟩,HB3⟩
      ·rw [HTK.out,numAll_snoc];exact HO.out
      ·rw [HTK.out];simpa [total] using HM3.out
      ·rw [HTK.out,knAll_snoc];exact HKN.out
     case measure=>simp [intOf];omega
  ·have hil:i=l0.length:=by omega
   subst hil
   rw [List.take_length] at HS HM
   go_wp2
   go_ret
   exact⟨_,rfl,Kd.S_mono HS.out (fun _ _=>trivial),HB.out⟩
#print axioms number_calls
theorem ext_number (A0 : Option Addr) (c0 : Nat) (l0 : List (List ByteArray)) (r : List (List Int)) (w : World) (hr0 : Kd.C (Kd.slice 9 Kd.string) w A0 l0.length l0) (hc0 : l0.length≤c0)
  (h:(if (∀ f∈l0,∀ s∈f,s.size≤4000000000)∧total l0≤4000000000∧l0.length≤4000000000 then some (numberB l0) else none)=some r) :
  Calls Tryz.prog 82 #[.slice A0 l0.length c0] w fun e w'=>∃ v0_:Value,e = .returned (v0_)∧Kd.S (Kd.slice 3 (Kd.int .i64)) 48 w' w.heap.size (fun _=>True) v0_ r∧Below w.heap.size w w':=by
 split at h
 ·rename_i hs
  obtain rfl:=Option.some.inj h
  exact number_calls A0 c0 l0 w hr0 hc0 hs.1 hs.2.1 hs.2.2
 ·cases h
end Go.Proofs.YtfiamddinkokbaaGreat
end

section
namespace Go.Proofs.YtfiamddinkokbaaGreat.F
open Go.RowKit Go.Proofs.YtfiamddinkokbaaGreatW.PrintWords Go.Proofs.YtfiamddinkokbaaGreatW.PrintLast Go.Proofs.YtfiamddinkokbaaGreatW.PrintMore
attribute [local go_sem] max2_int min2_int max_two min_two max_three min_three max_four min_four
def errW : Option Int→Value
 | none => .nilIface
 | some c => .iface 0 (.int .i64 c)
theorem errW_none : errW none = .nilIface := rfl
theorem errW_some (c : Int) : errW (some c) = .iface 0 (.int .i64 c) := rfl
theorem info9 : (Tryz.prog.info? 9).map (fun i=>(i.zero,i.size,i.bytes))=some (some (.string ⟨#[]⟩),1,16) := by kernel_rfl
theorem info124 : (Tryz.prog.info? 124).map (fun i=>(i.zero,i.size,i.bytes))=some (some (.agg #[(.string ⟨#[]⟩),(.string ⟨#[]⟩),(.string ⟨#[]⟩),(.bool false),(.string ⟨#[]⟩),(.string ⟨#[]⟩),(.string ⟨#[]⟩),(.string ⟨#[]⟩),(.bool false)]),9,128) := by kernel_rfl
structure S29 where
 f0:ByteArray
 f1:ByteArray
 f2:ByteArray
def z29 : S29 := ⟨(⟨#[]⟩ : ByteArray),(⟨#[]⟩ : ByteArray),(⟨#[]⟩ : ByteArray)⟩
def k29 : Kd S29 := Kd.iso (Kd.pair Kd.string (Kd.pair Kd.string Kd.string)) (fun x : S29=>(x.f0,x.f1,x.f2))
theorem k29_open {w : World} {x : S29} {cs : List Value} (h : k29.K w x cs) : cs=[.string x.f0,.string x.f1,.string x.f2] := by
 obtain⟨_,_,rfl,rfl,⟨_,_,rfl,rfl,rfl⟩⟩:=h
 exact rfl
theorem k29_openM {w : World} {base : Nat} {ok : Nat→Prop} {x : S29} {cs : List Value} (h : k29.M w base ok x cs) : cs=[.string x.f0,.string x.f1,.string x.f2] := by
 obtain⟨_,_,rfl,rfl,⟨_,_,rfl,rfl,rfl⟩⟩:=h
 exact rfl
theorem k29_mkM (w : World) (base : Nat) (ok : Nat→Prop) (x : S29)  : k29.M w base ok x [.string x.f0,.string x.f1,.string x.f2] := ⟨[.string x.f0],[.string x.f1,.string x.f2],rfl,rfl,⟨[.string x.f1],[.string x.f2],rfl,rfl,rfl⟩⟩
structure S124 where
 f0:S29
 f1:Bool
 f2:ByteArray
 f3:ByteArray
 f4:ByteArray
 f5:ByteArray
 f6:Bool
def z124 : S124 := ⟨z29,false,(⟨#[]⟩ : ByteArray),(⟨#[]⟩ : ByteArray),(⟨#[]⟩ : ByteArray),(⟨#[]⟩ : ByteArray),false⟩
def k124 : Kd S124 := Kd.iso (Kd.pair k29 (Kd.pair Kd.bool (Kd.pair Kd.string (Kd.pair Kd.string (Kd.pair Kd.string (Kd.pair Kd.string Kd.bool)))))) (fun x : S124=>(x.f0,x.f1,x.f2,x.f3,x.f4,x.f5,x.f6))
theorem k124_open {w : World} {x : S124} {cs : List Value} (h : k124.K w x cs) : cs=[.string x.f0.f0,.string x.f0.f1,.string x.f0.f2,.bool x.f1,.string x.f2,.string x.f3,.string x.f4,.string x.f5,.bool x.f6] := by
 obtain⟨_,_,rfl,s0,⟨_,_,rfl,rfl,⟨_,_,rfl,rfl,⟨_,_,rfl,rfl,⟨_,_,rfl,rfl,⟨_,_,rfl,rfl,rfl⟩⟩⟩⟩⟩⟩:=h
 obtain rfl:=k29_open s0
 exact rfl
theorem k124_openM {w : World} {base : Nat} {ok : Nat→Prop} {x : S124} {cs : List Value} (h : k124.M w base ok x cs) : cs=[.string x.f0.f0,.string x.f0.f1,.string x.f0.f2,.bool x.f1,.string x.f2,.string x.f3,.string x.f4,.string x.f5,.bool x.f6] := by
 obtain⟨_,_,rfl,s0,⟨_,_,rfl,rfl,⟨_,_,rfl,rfl,⟨_,_,rfl,rfl,⟨_,_,rfl,rfl,⟨_,_,rfl,rfl,rfl⟩⟩⟩⟩⟩⟩:=h
 obtain rfl:=k29_openM s0
 exact rfl
theorem k124_mkM (w : World) (base : Nat) (ok : Nat→Prop) (x : S124)  : k124.M w base ok x [.string x.f0.f0,.string x.f0.f1,.string x.f0.f2,.bool x.f1,.string x.f2,.string x.f3,.string x.f4,.string x.f5,.bool x.f6] := ⟨[.string x.f0.f0,.string x.f0.f1,.string x.f0.f2],[.bool x.f1,.string x.f2,.string x.f3,.string x.f4,.string x.f5,.bool x.f6],rfl,(k29_mkM w base ok x.f0 ),⟨[.bool x.f1],[.string x.f2,.string x.f3,.string x.f4,.string x.f5,.bool x.f6],rfl,rfl,⟨[.string x.f2],[.string x.f3,.string x.f4,.string x.f5,.bool x.f6],rfl,rfl,⟨[.string x.f3],[.string x.f4,.string x.f5,.bool x.f6],rfl,rfl,⟨[.string x.f4],[.string x.f5,.bool x.f6],rfl,rfl,⟨[.string x.f5],[.bool x.f6],rfl,rfl,rfl⟩⟩⟩⟩⟩⟩
def rd_T124 (xs : List S124) (i : Int) : S124 := xs.getD i.toNat z124
theorem at_T124 {w : World} {A : Option Addr} {n : Nat} {xs : List S124} (h : Kd.C k124 w A n xs) (i : Int) (h0 : 0≤i) (h1 : i<n) : ∃ ad ,A=some ad∧w.cell? (ad.add (i.toNat*9))=some (.string (rd_T124 xs i).f0.f0)∧w.cell? ⟨(ad.add (i.toNat*9)).block,(ad.add (i.toNat*9)).off+1,none⟩=some (.string (rd_T124 xs i).f0.f1)∧w.cell? ⟨(ad.add (i.toNat*9)).block,(ad.add (i.toNat*9)).off+2,none⟩=some (.string (rd_T124 xs i).f0.f2)∧w.cell? ⟨(ad.add (i.toNat*9)).block,(ad.add (i.toNat*9)).off+3,none⟩=some (.bool (rd_T124 xs i).f1)∧w.cell? ⟨(ad.add (i.toNat*9)).block,(ad.add (i.toNat*9)).off+4,none⟩=some (.string (rd_T124 xs i).f2)∧w.cell? ⟨(ad.add (i.toNat*9)).block,(ad.add (i.toNat*9)).off+5,none⟩=some (.string (rd_T124 xs i).f3)∧w.cell? ⟨(ad.add (i.toNat*9)).block,(ad.add (i.toNat*9)).off+6,none⟩=some (.string (rd_T124 xs i).f4)∧w.cell? ⟨(ad.add (i.toNat*9)).block,(ad.add (i.toNat*9)).off+7,none⟩=some (.string (rd_T124 xs i).f5)∧w.cell? ⟨(ad.add (i.toNat*9)).block,(ad.add (i.toNat*9)).off+8,none⟩=some (.bool (rd_T124 xs i).f6) := by
 obtain⟨ad,c,e,_,hK,hc0⟩:=Kd.C_get h z124 i h0 h1
 have hc:∀ j u,c[j]? = some u→w.cell? (ad.add (i.toNat*9+j))=some u:=hc0
 obtain rfl:=k124_open hK
 exact⟨ad,e,hc 0 _ rfl,by rw [←add_field _ _ 1 (by omega)];exact hc 1 _ rfl,by rw [←add_field _ _ 2 (by omega)];exact hc 2 _ rfl,by rw [←add_field _ _ 3 (by omega)];exact hc 3 _ rfl,by rw [←add_field _ _ 4 (by omega)];exact hc 4 _ rfl,by rw [←add_field _ _ 5 (by omega)];exact hc 5 _ rfl,by rw [←add_field _ _ 6 (by omega)];exact hc 6 _ rfl,by rw [←add_field _ _ 7 (by omega)];exact hc 7 _ rfl,by rw [←add_field _ _ 8 (by omega)];exact hc 8 _ rfl⟩
def rd_L5 (xs : List (List ByteArray)) (i : Int) : (List ByteArray) := xs.getD i.toNat ([] : List ByteArray)
theorem at_L5 {w : World} {A : Option Addr} {n : Nat} {xs : List (List ByteArray)} (h : Kd.C (Kd.slice 9 Kd.string) w A n xs) (i : Int) (h0 : 0≤i) (h1 : i<n) : ∃ ad A0 c0,A=some ad∧w.cell? (ad.add i.toNat)=some (.slice A0 (rd_L5 xs i).length c0)∧(rd_L5 xs i).length≤c0∧Kd.string.C w A0 (rd_L5 xs i).length (rd_L5 xs i) := by
 obtain⟨ad,c,e,_,hK,hc0⟩:=Kd.C_get h ([]:List ByteArray) i h0 h1
 have hc:∀ j u,c[j]? = some u→w.cell? (ad.add (i.toNat*1+j))=some u:=hc0
 obtain⟨A0,c0,rfl,l0,g0⟩:=hK
 exact⟨ad,A0,c0,e,by have hq:=hc 0 _ rfl;rwa [Nat.mul_one,Nat.add_zero] at hq,l0,g0⟩
structure S119 where
 f0:Int
 f1:Int
def z119 : S119 := ⟨(0 : Int),(0 : Int)⟩
def k119 : Kd S119 := Kd.iso (Kd.pair (Kd.int .i64) (Kd.int .i64)) (fun x : S119=>(x.f0,x.f1))
theorem k119_open {w : World} {x : S119} {cs : List Value} (h : k119.K w x cs) : cs=[.int .i64 x.f0,.int .i64 x.f1] := by
 obtain⟨_,_,rfl,rfl,rfl⟩:=h
 exact rfl
theorem k119_mkM (w : World) (base : Nat) (ok : Nat→Prop) (x : S119)  : k119.M w base ok x [.int .i64 x.f0,.int .i64 x.f1] := ⟨[.int .i64 x.f0],[.int .i64 x.f1],rfl,rfl,rfl⟩
structure S121 where
 f0:Bool
 f1:S119
 f2:S119
 f3:S119
def z121 : S121 := ⟨false,z119,z119,z119⟩
def k121 : Kd S121 := Kd.iso (Kd.pair Kd.bool (Kd.pair k119 (Kd.pair k119 k119))) (fun x : S121=>(x.f0,x.f1,x.f2,x.f3))
theorem k121_open {w : World} {x : S121} {cs : List Value} (h : k121.K w x cs) : cs=[.bool x.f0,.int .i64 x.f1.f0,.int .i64 x.f1.f1,.int .i64 x.f2.f0,.int .i64 x.f2.f1,.int .i64 x.f3.f0,.int .i64 x.f3.f1] := by
 obtain⟨_,_,rfl,rfl,⟨_,_,rfl,s1,⟨_,_,rfl,s3,s5⟩⟩⟩:=h
 obtain rfl:=k119_open s1
 obtain rfl:=k119_open s3
 obtain rfl:=k119_open s5
 exact rfl
theorem k121_mkM (w : World) (base : Nat) (ok : Nat→Prop) (x : S121)  : k121.M w base ok x [.bool x.f0,.int .i64 x.f1.f0,.int .i64 x.f1.f1,.int .i64 x.f2.f0,.int .i64 x.f2.f1,.int .i64 x.f3.f0,.int .i64 x.f3.f1] := ⟨[.bool x.f0],[.int .i64 x.f1.f0,.int .i64 x.f1.f1,.int .i64 x.f2.f0,.int .i64 x.f2.f1,.int .i64 x.f3.f0,.int .i64 x.f3.f1],rfl,rfl,⟨[.int .i64 x.f1.f0,.int .i64 x.f1.f1],[.int .i64 x.f2.f0,.int .i64 x.f2.f1,.int .i64 x.f3.f0,.int .i64 x.f3.f1],rfl,(k119_mkM w base ok x.f1 ),⟨[.int .i64 x.f2.f0,.int .i64 x.f2.f1],[.int .i64 x.f3.f0,.int .i64 x.f3.f1],rfl,(k119_mkM w base ok x.f2 ),(k119_mkM w base ok x.f3 )⟩⟩⟩
def rd_T121 (xs : List S121) (i : Int) : S121 := xs.getD i.toNat z121
theorem at_T121 {w : World} {A : Option Addr} {n : Nat} {xs : List S121} (h : Kd.C k121 w A n xs) (i : Int) (h0 : 0≤i) (h1 : i<n) : ∃ ad ,A=some ad∧w.cell? (ad.add (i.toNat*7))=some (.bool (rd_T121 xs i).f0)∧w.cell? ⟨(ad.add (i.toNat*7)).block,(ad.add (i.toNat*7)).off+1,none⟩=some (.int .i64 (rd_T121 xs i).f1.f0)∧w.cell? ⟨(ad.add (i.toNat*7)).block,(ad.add (i.toNat*7)).off+2,none⟩=some (.int .i64 (rd_T121 xs i).f1.f1)∧w.cell? ⟨(ad.add (i.toNat*7)).block,(ad.add (i.toNat*7)).off+3,none⟩=some (.int .i64 (rd_T121 xs i).f2.f0)∧w.cell? ⟨(ad.add (i.toNat*7)).block,(ad.add (i.toNat*7)).off+4,none⟩=some (.int .i64 (rd_T121 xs i).f2.f1)∧w.cell? ⟨(ad.add (i.toNat*7)).block,(ad.add (i.toNat*7)).off+5,none⟩=some (.int .i64 (rd_T121 xs i).f3.f0)∧w.cell? ⟨(ad.add (i.toNat*7)).block,(ad.add (i.toNat*7)).off+6,none⟩=some (.int .i64 (rd_T121 xs i).f3.f1) := by
 obtain⟨ad,c,e,_,hK,hc0⟩:=Kd.C_get h z121 i h0 h1
 have hc:∀ j u,c[j]? = some u→w.cell? (ad.add (i.toNat*7+j))=some u:=hc0
 obtain rfl:=k121_open hK
 exact⟨ad,e,hc 0 _ rfl,by rw [←add_field _ _ 1 (by omega)];exact hc 1 _ rfl,by rw [←add_field _ _ 2 (by omega)];exact hc 2 _ rfl,by rw [←add_field _ _ 3 (by omega)];exact hc 3 _ rfl,by rw [←add_field _ _ 4 (by omega)];exact hc 4 _ rfl,by rw [←add_field _ _ 5 (by omega)];exact hc 5 _ rfl,by rw [←add_field _ _ 6 (by omega)];exact hc 6 _ rfl⟩
def rd_L8 (xs : List (List Int)) (i : Int) : (List Int) := xs.getD i.toNat ([] : List Int)
theorem at_L8 {w : World} {A : Option Addr} {n : Nat} {xs : List (List Int)} (h : Kd.C (Kd.slice 3 (Kd.int .i64)) w A n xs) (i : Int) (h0 : 0≤i) (h1 : i<n) : ∃ ad A0 c0,A=some ad∧w.cell? (ad.add i.toNat)=some (.slice A0 (rd_L8 xs i).length c0)∧(rd_L8 xs i).length≤c0∧(Kd.int .i64).C w A0 (rd_L8 xs i).length (rd_L8 xs i) := by
 obtain⟨ad,c,e,_,hK,hc0⟩:=Kd.C_get h ([]:List Int) i h0 h1
 have hc:∀ j u,c[j]? = some u→w.cell? (ad.add (i.toNat*1+j))=some u:=hc0
 obtain⟨A0,c0,rfl,l0,g0⟩:=hK
 exact⟨ad,A0,c0,e,by have hq:=hc 0 _ rfl;rwa [Nat.mul_one,Nat.add_zero] at hq,l0,g0⟩
structure S94 where
 f0:Int
 f1:Int
def z94 : S94 := ⟨(0 : Int),(0 : Int)⟩
def k94 : Kd S94 := Kd.iso (Kd.pair (Kd.int .i64) (Kd.int .i64)) (fun x : S94=>(x.f0,x.f1))
theorem k94_open {w : World} {x : S94} {cs : List Value} (h : k94.K w x cs) : cs=[.int .i64 x.f0,.int .i64 x.f1] := by
 obtain⟨_,_,rfl,rfl,rfl⟩:=h
 exact rfl
theorem k94_mkM (w : World) (base : Nat) (ok : Nat→Prop) (x : S94)  : k94.M w base ok x [.int .i64 x.f0,.int .i64 x.f1] := ⟨[.int .i64 x.f0],[.int .i64 x.f1],rfl,rfl,rfl⟩
def rd_T94 (xs : List S94) (i : Int) : S94 := xs.getD i.toNat z94
theorem at_T94 {w : World} {A : Option Addr} {n : Nat} {xs : List S94} (h : Kd.C k94 w A n xs) (i : Int) (h0 : 0≤i) (h1 : i<n) : ∃ ad ,A=some ad∧w.cell? (ad.add (i.toNat*2))=some (.int .i64 (rd_T94 xs i).f0)∧w.cell? ⟨(ad.add (i.toNat*2)).block,(ad.add (i.toNat*2)).off+1,none⟩=some (.int .i64 (rd_T94 xs i).f1) := by
 obtain⟨ad,c,e,_,hK,hc0⟩:=Kd.C_get h z94 i h0 h1
 have hc:∀ j u,c[j]? = some u→w.cell? (ad.add (i.toNat*2+j))=some u:=hc0
 obtain rfl:=k94_open hK
 exact⟨ad,e,hc 0 _ rfl,by rw [←add_field _ _ 1 (by omega)];exact hc 1 _ rfl⟩
structure S60 where
 f0:ByteArray
 f1:ByteArray
 f2:ByteArray
 f3:Bool
 f4:ByteArray
 f5:ByteArray
 f6:ByteArray
 f7:ByteArray
 f8:Bool
def k60 : Kd S60 := Kd.iso (Kd.pair Kd.string (Kd.pair Kd.string (Kd.pair Kd.string (Kd.pair Kd.bool (Kd.pair Kd.string (Kd.pair Kd.string (Kd.pair Kd.string (Kd.pair Kd.string Kd.bool)))))))) (fun x : S60=>(x.f0,x.f1,x.f2,x.f3,x.f4,x.f5,x.f6,x.f7,x.f8))
end Go.Proofs.YtfiamddinkokbaaGreat.F
end
