/- Texts joined into one file (wip/tools/pack.py): Split, Run, Ext -/
import Derived.Test.YtfiamddinkokbaaTA1
import Derived.Test.YtfiamddinkokbaaTAWords3
import Derived.TacticsInMore
import Derived.LoopNIn
import Derived.LoopIn
import Derived.Maps.AppendAt
import Derived.StillTailTactics
import Derived.Lib.Hide
import Derived.Outline
import Derived.Lib.OthersKept
set_option linter.unusedVariables false
set_option linter.unusedSimpArgs false
section
namespace Go.Proofs.Ytfiamddinkokbaa
open Go.RowKit Go.Shelf Go.Proofs.YtfiamddinkokbaaW.PrintWords
attribute [local go_sem] Oper.semAt_some
def leftIn (B : Nat) (W : World) : Nat := match W.cell? ⟨B,0,none⟩ with|some (.string s)=>s.size|_=>0
theorem leftIn_eq {B : Nat} {W : World} {s : ByteArray} (h : W.cell? ⟨B,0,none⟩=some (.string s)) : leftIn B W=s.size := by simp [leftIn,h]
theorem own_lower {w : World} {base base' : Nat} {e : TypeId} {size n : Nat} {v : Value} {xs : List Value} (hb : base'≤base) (h : w.ownsRow base e size v n xs) : w.ownsRow base' e size v n xs := by
 obtain⟨h1,h2⟩:=h
 refine⟨h1,?_⟩
 rcases h2 with h2|⟨g,cap,cur,hv,hg,r⟩
 ·exact Or.inl h2
 ·exact Or.inr ⟨g,cap,cur,hv,Nat.le_trans hb hg,r⟩
theorem dropLine_lt : ∀ l : List UInt8,l≠[]→(dropLine l).length<l.length
 | [],h=>absurd rfl h
 | c::t,_=>by
  by_cases hc:c=10
  ·simp [dropLine,hc]
  ·by_cases ht:t=[]
   ·subst ht;simp [dropLine,hc]
   ·have:=dropLine_lt t ht
    simp [dropLine,hc];omega
set_option maxRecDepth 100000 in
set_option maxHeartbeats 1000000 in
theorem lines1_in (n : Nat) (hn : 1≤n) (l B : Nat) (s0 : ByteArray) (hsz : s0.size≤4000000000) (J : List ByteArray→World→Prop)
  (hset:∀ s W v,J s W→J s (W.setCell ⟨B,0,none⟩ v)) (hdr:∀ s W,J s W→J s W.drew)
  (hY:∀ pre x W1,J pre W1→pre.length<(splitB s0).length→YieldAt Fence.wide (n-1) Try.prog l #[.string x] W1 fun e W'=>e = .returned (.bool true)∧J (pre++[x]) W'∧W'.heap[B]? = W1.heap[B]?)
  (W:World) (hB:Boxed W B 9 (.string s0)) (h0:J [] W) :
  CallsIn Fence.wide n Try.prog 119 #[.func (.yield l) #[] #[],.pointer (some ⟨B,0,none⟩)] W fun e W'=>(∃ v,e = .returned v)∧∃ xs,xs=splitB s0∧J xs W':=by
 refine callsIn_of_wp Try.func119 rfl trivial ?_ rfl
 simp only [Try.ntmps119,List.size_toArray,List.length_cons,List.length_nil,Nat.reduceAdd,Nat.reduceSub,Array.replicate_succ,Array.replicate_zero,List.push_toArray,List.append_toArray,List.nil_append,List.cons_append]
 gi_wp2
 gi_loopw [3,4] (fun _ _ wr=>∃ (pre:List ByteArray) (s:ByteArray),Boxed wr B 9 (.string s)∧s.size≤s0.size∧splitB s0=pre++splitB s∧J pre wr)
  (fun _ _ wr=>leftIn B wr)
 case atStart=>exact⟨[],s0,hB,Nat.le_refl _,rfl,h0⟩
 case round =>
  obtain⟨pre,s,hb,hle,hx,hJ⟩:=hrel
  have hsz':s.size≤4000000000:=by omega
  have hc:=hb.cell
  have hf:=hb.frozen
  by_cases hs:s.size=0
  ·have hs0:decide ((0:Int)<(s.size:Int))=false:=by simp [hs]
   have hnil:splitB s=[]:=by
    have:s.data.toList=[]:=List.eq_nil_of_length_eq_zero (by rw [Array.length_toList];exact hs)
    simp [splitB,this,splitL]
   have HE:=Lib.hid (show ∃ xs,xs=splitB s0∧J xs wr from ⟨pre,by rw [hx,hnil,List.append_nil],hJ⟩)
   clear hx hnil
   gi_wp2
   go_end0
   exact⟨⟨_,rfl⟩,HE.out⟩
  ·have hs0:decide ((0:Int)<(s.size:Int))=true:=by simp;omega
   have hne:s.data.toList≠[]:=by
    intro h;apply hs;have:=congrArg List.length h;rw [Array.length_toList] at this;exact this
   have hnx:splitB s=toB (takeLine s.data.toList)::splitB (toB (dropLine s.data.toList)):=by
    unfold splitB;rw [splitL_next _ hne];simp
   have HD:Hid ((dropLine s.data.toList).length<s.size):=by
    have:=dropLine_lt _ hne;rw [Array.length_toList] at this;exact this
   have HX:=Lib.hid hx
   have HN:=Lib.hid hnx
   clear hx hnx
   have hcall:=Try.strings_IndexByte s 10 wr
   rw [show (10:Int).toNat.toUInt8=10 from rfl] at hcall
   by_cases hi:0≤Lib.indexByte s.data.toList 10
   ·obtain⟨i,hi'⟩:=Int.eq_ofNat_of_zero_le hi
    rw [hi'] at hcall
    have hlt:i<s.size:=by
     have:=(Lib.indexByte_some hi').1
     have:=(List.getElem?_eq_some_iff.1 this).1
     rw [Array.length_toList] at this;exact this
    have hl:=line_of_some _ i hi'
    have HL:=Lib.hid hl
    clear hl hi hi'
    have HCALL:=Lib.hid hcall
    clear hcall
    gi_wp2_with (refine⟨trivial,?_⟩;gi_at_call 120;refine (callsIn_wide.2 HCALL.out).mono ?_;rintro e w' ⟨rfl,rfl⟩)
    gi_region
    have hb1:Boxed (w'.setCell ⟨B,0,none⟩ (.string (s.extract (i+1) s.size))).drew B 9 (.string (s.extract (i+1) s.size)):=hb.set _
    have e1:s.extract 0 (i+1)=toB (takeLine s.data.toList):=by
     rw [HL.out.1,←toB_data (s.extract 0 (i+1)),Lib.extract_data];simp
    have e2:s.extract (i+1) s.size=toB (dropLine s.data.toList):=by
     rw [HL.out.2,←toB_data (s.extract (i+1) s.size),Lib.extract_data,List.take_of_length_le (by rw [List.length_drop,Array.length_toList];exact Nat.le_refl _)]
    have hJ1:J pre (w'.setCell ⟨B,0,none⟩ (.string (s.extract (i+1) s.size))).drew:=hdr _ _ (hset _ _ _ hJ)
    have hlen:pre.length<(splitB s0).length:=by rw [HX.out,HN.out];simp
    obtain⟨fn,tmps,assign,body,hy,hR⟩:=hY pre (s.extract 0 (i+1)) _ hJ1 hlen
    have E1:=Lib.hid e1
    have E2:=Lib.hid e2
    clear e1 e2 hlen
    gi_wp2
    refine hR.mono ?_
    rintro e W3 ⟨rfl,hJ3,hk3⟩
    have hb3:Boxed W3 B 9 (.string (s.extract (i+1) s.size)):=hk3.trans hb1
    gi_wp2
    go_roundw
    case rel =>
     refine⟨pre++[s.extract 0 (i+1)],s.extract (i+1) s.size,hb3,?_,?_,hJ3⟩
     ·rw [E2.out,toB_size];have:=HD.out;omega
     ·rw [HX.out,HN.out,E1.out,E2.out];simp
    case measure =>
     rw [leftIn_eq hb3.cell,leftIn_eq hc,E2.out,toB_size];exact HD.out
   ·have hi0:Lib.indexByte s.data.toList 10 = -1:=by have:=Lib.indexByte_ge s.data.toList 10;omega
    rw [hi0] at hcall
    have hl:=line_of_none _ hi0
    have HL:=Lib.hid hl
    clear hl hi hi0
    have HCALL:=Lib.hid hcall
    clear hcall
    have hb1:Boxed (wr.setCell ⟨B,0,none⟩ (.string ⟨#[]⟩)) B 9 (.string ⟨#[]⟩):=hb.set _
    have hJ1:J pre (wr.setCell ⟨B,0,none⟩ (.string ⟨#[]⟩)):=hset _ _ _ hJ
    have hlen:pre.length<(splitB s0).length:=by rw [HX.out,HN.out];simp
    obtain⟨fn,tmps,assign,body,hy,hR⟩:=hY pre s _ hJ1 hlen
    clear hlen
    gi_wp2_with (refine⟨trivial,?_⟩;gi_at_call 120;refine (callsIn_wide.2 HCALL.out).mono ?_;rintro e w' ⟨rfl,rfl⟩)
    refine hR.mono ?_
    rintro e W3 ⟨rfl,hJ3,hk3⟩
    have hb3:Boxed W3 B 9 (.string ⟨#[]⟩):=hk3.trans hb1
    gi_wp2
    go_roundw
    case rel =>
     refine⟨pre++[s],⟨#[]⟩,hb3,Nat.zero_le _,?_,hJ3⟩
     rw [HX.out,HN.out,HL.out.1,HL.out.2,toB_data];simp [splitB,splitL,toB]
    case measure =>
     rw [leftIn_eq hb3.cell,leftIn_eq hc]
     show 0<s.size
     omega
theorem lines_seq (n : Nat) (hn : 1≤n) (B : Nat) (s0 : ByteArray) (hsz : s0.size≤4000000000) :
  SeqCell Fence.wide n Try.prog 119 #[.pointer (some ⟨B,0,none⟩)] (fun x:ByteArray=>#[Value.string x]) B (.cells #[.string s0] 9 (0,0)) (fun xs=>xs=splitB s0) (splitB s0).length :=
 fun l J W hB hset hdr hY h0=>lines1_in n hn l B s0 hsz J hset hdr hY W hB h0
set_option maxHeartbeats 1000000 in
theorem lines_in (n : Nat) (s : ByteArray) (w : World) :
  CallsIn Fence.wide n Try.prog 80 #[.string s] w fun e w'=>e = .returned (.func (.func 119) #[] #[.pointer (some ⟨w.heap.size,0,none⟩)])∧w'=w.alloc (.cells #[.string s] 9):=by
 refine callsIn_of_wp Try.func80 rfl trivial ?_ rfl
 simp only [Try.ntmps80,List.size_toArray,List.length_cons,List.length_nil,Nat.reduceAdd,Nat.reduceSub,Array.replicate_succ,Array.replicate_zero,List.push_toArray,List.append_toArray,List.nil_append,List.cons_append]
 gi_wp2
 go_ret
 exact⟨rfl,rfl⟩
theorem split_info : (Try.prog.info? 9).map (fun i=>(i.zero,i.size,i.bytes))=some (some (.string ⟨#[]⟩),1,16) := by kernel_rfl
set_option maxRecDepth 100000 in
set_option maxHeartbeats 2000000 in
theorem appendSeq_in (n : Nat) (hn : 3≤n) (s : ByteArray) (hsz : s.size≤4000000000) (n₀ B : Nat) (w0 w : World) (h0B : n₀≤B) (hw0 : n₀≤w0.heap.size) (hbel : Below n₀ w0 w) (hB : Boxed w B 9 (.string s)) :
  CallsIn Fence.wide n Try.prog 118 #[.slice none 0 0,.func (.func 119) #[] #[.pointer (some ⟨B,0,none⟩)]] w fun e W'=>∃ v,e = .returned v∧W'.ownsRow n₀ 9 1 v (splitB s).length ((splitB s).map Value.string)∧Below n₀ w0 W':=by
 have h1:1≤n:=by omega
 obtain⟨i0,hi,hz0,hz1,hz2⟩:=info_parts split_info
 refine callsIn_of_wp_marks Try.func118 rfl trivial ?_ rfl
 simp only [Try.ntmps118,List.size_toArray,List.length_cons,List.length_nil,Nat.reduceAdd,Nat.reduceSub,Array.replicate_succ,Array.replicate_zero,List.push_toArray,List.append_toArray,List.nil_append,List.cons_append]
 have hBlt:=hB.lt
 have bO:=Boxed.new w 36 (.slice none 0 0)
 have hB1:Boxed (w.alloc (.cells #[.slice none 0 0] 36)) B 9 (.string s):=hB.alloc _
 have hbel1:Below n₀ w0 (w.alloc (.cells #[.slice none 0 0] 36)):=hbel.alloc (Nat.le_trans hw0 hbel.size) _
 have hlen:=splitL_length_le s.data.toList
 have hlen2:(splitB s).length≤4000000000:=by
  unfold splitB;rw [List.length_map];rw [Array.length_toList] at hlen;exact Nat.le_trans hlen hsz
 gi_wp2
 refine wpIn_rangeFunc_cell rfl h1 (gf:=119) (lb:=#[.pointer (some ⟨B,0,none⟩)]) rfl trivial (enters_of Try.func119 (by kernel_rfl) rfl)
  (lines_seq (n-1) (by omega) B s hsz) hB1 (fun _=>rfl)
  (fun pre W=>(∃ v,Boxed W w.heap.size 36 v∧W.ownsRow w.heap.size 9 1 v pre.length (pre.map Value.string)∧True)∧Below n₀ w0 W∧w.heap.size≤W.heap.size)
  ?own ?setB ?drew ⟨⟨_,bO,World.ownsRow_nil _ _ _ _,trivial⟩,hbel1,by simp⟩
  (fun x=>{ tmps:=#[.slice none 0 0,.func (.func 119) #[] #[.pointer (some ⟨B,0,none⟩)],.pointer (some ⟨w.heap.size,0,none⟩),undef,.slice none 0 0,.string x,.func (.func 119) #[] #[.pointer (some ⟨B,0,none⟩)],.string x,undef,undef,undef,undef,undef],defers:=[] }) ?assign ?body ?done
 case own=>exact OwnFrom.and (Own.from (holdsRow_own w.heap.size w.heap.size 36 9 1 (fun pre:List ByteArray=>pre.length) (fun pre=>pre.map Value.string) (fun _ _=>True)) _) (OwnFrom.and (ownFrom_below hw0 (by have:=hbel.size;simp;omega)) (fun _ _ _ _ hs hg _=>Nat.le_trans hs hg.size))
 case setB =>
  rintro pre W v ⟨⟨u,hu,hr,_⟩,hb,hz⟩
  refine⟨⟨u,hu.kept (grownBy_setCell' W B v) (by simp;omega),ownsRow_setCell_below hr hBlt v,trivial⟩,hb.setCell (p:=⟨B,0,none⟩) h0B v,?_⟩
  simpa [World.setCell] using hz
 case drew =>
  rintro pre W ⟨⟨u,hu,hr,_⟩,hb,hz⟩
  exact⟨⟨u,hu,hr,trivial⟩,hb.drew,hz⟩
 case assign =>
  intro l x W K hK
  gi_wp2
  exact hK
 case body =>
  rintro l pre x W ⟨⟨v,hv,hrow,_⟩,hb,hz⟩ hlt
  have hc:=hv.cell
  gi_wp2_with (gi_at_builtin;refine wpListIn_append_own _ rfl _ _ 36 rfl w.heap.size 9 i0 (.string ⟨#[]⟩) 1 16 Try.underlying36 hi hz0 hz1 hz2 rfl (by decide) _ _ _ rfl (hrow.alloc _) ⟨W.heap.size,0,none⟩ 1 1 [.string x] rfl rfl (cell_one_new _ _ _) (by simp [Value.oneCell']) (by unfold maxLen;omega) (by omega) (by simp;omega) ?_;intro v' w1 hown' hgrow _;obtain⟨g',cap',rfl⟩:=ownsRow_succ hown';obtain⟨hv1,hv2,hr2,hk2,hb2⟩:=hv.appended (by decide) hrow hz (Nat.le_refl _) hown' hgrow;have hc1:=hv1.cell;have hf1:=hv1.frozen)
  exact⟨hk2.from _,hb2.block B hBlt,⟨_,hv2,hr2⟩,hb.trans (hb2.mono (Nat.le_trans h0B (Nat.le_of_lt hBlt))),by have:=hb2.size;simp [World.setCell] at this;omega⟩
 case done =>
  rintro D ys W hD rfl ⟨⟨v,hv,hrow,_⟩,hb,hz⟩ hK
  have hc:=hv.cell
  gi_wp2
  refine⟨by simp,.inl ⟨_,_,rfl,run_takeDeferred hK,?_⟩⟩
  have hrow':=ownsRow_putObj hrow (.deferred none) hK rfl
  exact⟨_,results_tmp rfl _ _ _,v,rfl,own_lower (Nat.le_trans h0B (Nat.le_of_lt hBlt)) hrow',hb.grown (grownBy_putObj' W D _) (Nat.le_trans hw0 hb.size) (fun k e=>by cases e;simp at hD;omega)⟩
set_option maxHeartbeats 1000000 in
theorem collect_in (n : Nat) (hn : 4≤n) (s : ByteArray) (hsz : s.size≤4000000000) (n₀ B : Nat) (w0 w : World) (h0B : n₀≤B) (hw0 : n₀≤w0.heap.size) (hbel : Below n₀ w0 w) (hB : Boxed w B 9 (.string s)) :
  CallsIn Fence.wide n Try.prog 79 #[.func (.func 119) #[] #[.pointer (some ⟨B,0,none⟩)]] w fun e W'=>∃ v,e = .returned v∧W'.ownsRow n₀ 9 1 v (splitB s).length ((splitB s).map Value.string)∧Below n₀ w0 W':=by
 refine callsIn_of_wp Try.func79 rfl trivial ?_ rfl
 simp only [Try.ntmps79,List.size_toArray,List.length_cons,List.length_nil,Nat.reduceAdd,Nat.reduceSub,Array.replicate_succ,Array.replicate_zero,List.push_toArray,List.append_toArray,List.nil_append,List.cons_append]
 have h1:1≤n:=by omega
 have hA:=appendSeq_in (n-1) (by omega) s hsz n₀ B w0 w h0B hw0 hbel hB
 have HA:=Lib.hid hA
 clear hA
 gi_wp2_with (refine⟨trivial,?_⟩;gi_at_call 118;refine HA.out.mono ?_;rintro e w' ⟨v,rfl,hr,hb⟩)
 go_ret
 exact⟨v,rfl,hr,hb⟩
set_option maxHeartbeats 1000000 in
theorem split_calls (s : ByteArray) (hsz : s.size≤4000000000) (w : World) :
  Calls Try.prog 29 #[.string s] w fun e w'=>∃ v,e = .returned v∧w'.ownsRow w.heap.size 9 1 v (splitB s).length ((splitB s).map Value.string)∧Below w.heap.size w w':=by
 refine (callsIn_wide (n:=9)).1 ?_
 refine callsIn_of_wp Try.func29 rfl trivial ?_ rfl
 simp only [Try.ntmps29,List.size_toArray,List.length_cons,List.length_nil,Nat.reduceAdd,Nat.reduceSub,Array.replicate_succ,Array.replicate_zero,List.push_toArray,List.append_toArray,List.nil_append,List.cons_append]
 have hC:=collect_in 8 (by omega) s hsz w.heap.size w.heap.size w _ (Nat.le_refl _) (Nat.le_refl _) ((Below.refl _ _).alloc (Nat.le_refl _) _) (Boxed.new w 9 (.string s))
 have HC:=Lib.hid hC
 clear hC
 gi_wp2_with (refine⟨trivial,?_⟩;first|(gi_at_call 80;refine (lines_in 8 s w).mono ?_;rintro e w' ⟨rfl,rfl⟩)|(gi_at_call 79;refine HC.out.mono ?_;rintro e w' ⟨v,rfl,hr,hb⟩))
 go_ret
 exact⟨v,rfl,hr,hb⟩
#print axioms split_calls
end Go.Proofs.Ytfiamddinkokbaa
end

section
namespace Go.Proofs.Ytfiamddinkokbaa
open Go.RowKit Go.Shelf Go.Proofs.YtfiamddinkokbaaW.PrintWords
def cutL (c : UInt8) (l : List UInt8) : List UInt8 := l.dropWhile (· == c)
theorem cutL_eq (c : UInt8) (l : List UInt8) (k : Nat) (h : ∀ j,j<k→l[j]? = some c) (hk : ∀ x,l[k]? = some x→x≠c) : cutL c l=l.drop k := by
 induction k generalizing l with
 | zero =>
  cases l with
  | nil=>rfl
  | cons a t=>simp [cutL,hk a (by simp)]
 | succ k ih =>
  cases l with
  | nil=>simp [cutL]
  | cons a t =>
   have h0:a=c:=by have:=h 0 (by omega);simpa using this
   have:=ih t (fun j hj=>by have:=h (j+1) (by omega);simpa using this) (fun x hx=>hk x (by simpa using hx))
   simp only [cutL] at this ⊢
   simp [h0,this]
theorem getElem?_byte (s : ByteArray) (k : Nat) (h : k<s.size) : s.data.toList[k]? = some s[k] := by
 rw [List.getElem?_eq_getElem (by rw [Array.length_toList];exact h)];rfl
theorem iterPos_of {w : World} {k p : Nat} {s : ByteArray} (h : w.heap[k]? = some (.stringIter s p)) : w.iterPos k=p := by simp [World.iterPos,h]
set_option maxRecDepth 100000 in
set_option maxHeartbeats 2000000 in
theorem cutLeft_calls (s : ByteArray) (hsz : s.size≤4000000000) (c : UInt8) (hc : c.toNat<128) (w : World) :
  Calls Try.prog 85 #[.string s,.string ⟨#[c]⟩] w fun e w'=>e = .returned (.string (toB (cutL c s.data.toList)))∧Below w.heap.size w w':=by
 go_enter Try.func85,Try.ntmps85
 go_wp2
 go_loopw [5,6,7,9] (fun _ _ _ _ wr=>∃ k:Nat,k≤s.size∧wr.heap[w.heap.size]? = some (.stringIter s k)∧Below w.heap.size w wr∧Hid (∀ j,j<k→s.data.toList[j]? = some c))
  (fun _ _ _ _ wr=>s.size-wr.iterPos w.heap.size)
 case atStart=>exact⟨0,Nat.zero_le _,World.iter_heap _ _ _,(Below.refl _ _).alloc (Nat.le_refl _) _,fun j hj=>by omega⟩
 case round =>
  obtain⟨wo,rfl⟩:∃ wo:World,wo=wr:=⟨_,rfl⟩
  obtain⟨k,hk,hit,hb,HC⟩:=hrel
  have HB:=Lib.hid hb
  clear hb
  by_cases hlt:k<s.size
  ·by_cases heq:s[k]=c
   ·have hn:=Lib.run_next_ascii_at (P:=Try.prog) wo w.heap.size s k 0 hit hlt (by rw [heq];exact hc)
    rw [heq] at hn
    have hit2:(wo.iterAt w.heap.size s (k+1)).heap[w.heap.size]? = some (.stringIter s (k+1)):=Lib.iterAt_heap _ _ _ _ _ hit
    have HB2:Hid (Below w.heap.size w (wo.iterAt w.heap.size s (k+1))):=Lib.below_iterAt HB.out (Nat.le_refl _) _ _
    have hlt2:w.heap.size<(wo.iterAt w.heap.size s (k+1)).heap.size:=(Array.getElem?_eq_some_iff.1 hit2).1
    have HM:Hid (wo.iterPos w.heap.size=k):=iterPos_of hit
    have H2:=Lib.hid (And.intro hit2 (And.intro HB2.out hlt2))
    clear hit2 HB2 hlt2 hit
    go_wp2
    obtain⟨wm,hwm⟩:∃ wm:World,wm=wo.iterAt w.heap.size s (k+1):=⟨_,rfl⟩
    rw [←hwm] at H2 ⊢
    clear hwm hn
    go_loopw [7,9] (fun v7 _ wr=>∃ p:Nat,p≤1∧wr.heap[wm.heap.size]? = some (.stringIter ⟨#[c]⟩ p)∧Hid (wr.heap[w.heap.size]? = some (.stringIter s (k+1)))∧Hid (Below w.heap.size w wr)∧v7 = .bool (decide (p=1)))
     (fun _ _ wr=>1-wr.iterPos wm.heap.size)
    case atStart=>exact⟨0,by omega,World.iter_heap _ _ _,(Below.heap_alloc _ _ _ H2.out.2.2).trans H2.out.1,(H2.out.2.1.alloc (by have:=H2.out.2.2;omega) _),by rfl⟩
    case round =>
     obtain⟨p,hp,hit3,HI,HB3,rfl⟩:=hrel
     have hlt3:wm.heap.size<wr.heap.size:=(Array.getElem?_eq_some_iff.1 hit3).1
     by_cases hp0:p=0
     ·subst hp0
      have hn:=Lib.run_next_ascii_at (P:=Try.prog) wr wm.heap.size ⟨#[c]⟩ 0 0 hit3 (by show 0<1;omega) hc
      have hn2:(Instr.next (.pointer (some ⟨wm.heap.size,0,none⟩)) true 0).run Try.prog wr = .ok (.tuple #[.bool true,.int .i64 (0:Nat),.int .i32 c.toNat]) (wr.iterAt wm.heap.size ⟨#[c]⟩ 1):=hn
      clear hn
      have hit4:=Lib.iterAt_heap wr wm.heap.size ⟨#[c]⟩ 0 1 hit3
      have HI4:Hid ((wr.iterAt wm.heap.size ⟨#[c]⟩ 1).heap[w.heap.size]? = some (.stringIter s (k+1))):=(Lib.iterAt_other _ _ _ _ _ (by have:=H2.out.2.2;omega)).trans HI.out
      have HB4:Hid (Below w.heap.size w (wr.iterAt wm.heap.size ⟨#[c]⟩ 1)):=Lib.below_iterAt HB3.out (by have:=H2.out.2.2;omega) _ _
      have HP4:Hid ((wr.iterAt wm.heap.size ⟨#[c]⟩ 1).iterPos wm.heap.size=1):=iterPos_of hit4
      have HP3:Hid (wr.iterPos wm.heap.size=0):=iterPos_of hit3
      have HIT4:=Lib.hid hit4
      clear hit4 hit3
      go_wp2
      go_roundw
      case rel=>exact⟨1,by omega,HIT4.out,HI4,HB4,by simp⟩
      case measure=>rw [HP4.out,HP3.out];omega
     ·have hp1:p=1:=by omega
      subst hp1
      have hn:=Lib.run_next_end_at (P:=Try.prog) wr wm.heap.size ⟨#[c]⟩ 1 0 hit3 (by show ¬ 1<1;omega)
      clear hit3
      have HP5:Hid (wr.iterPos w.heap.size=k+1):=iterPos_of HI.out
      go_wp2
      go_roundw
      case rel =>
       refine⟨k+1,by omega,HI.out,HB3.out,fun j hj=>?_⟩
       by_cases hj2:j<k
       ·exact HC.out j hj2
       ·have:j=k:=by omega
        subst this
        rw [←heq];exact getElem?_byte s j hlt
      case measure=>rw [HP5.out,HM.out];omega
   ·have hn0:=Lib.run_next_any_at (P:=Try.prog) wo w.heap.size s k 0 hit hlt
    have hex:∃ r wd:Nat,r≠c.toNat∧r≤2147483647∧1≤wd∧(Instr.next (.pointer (some ⟨w.heap.size,0,none⟩)) true 0).run Try.prog wo = .ok (.tuple #[.bool true,.int .i64 k,.int .i32 r]) (wo.iterAt w.heap.size s (k+wd)):=by
     by_cases ha:(s[k]'hlt).toNat<128
     ·have hd:=decode_ascii s k hlt ha
      rw [hd] at hn0
      exact⟨_,_,fun e=>heq (UInt8.toNat_inj.1 e),by omega,Nat.le_refl _,hn0⟩
     ·have hd:=decode_high s k hlt (by omega)
      exact⟨_,_,by omega,decode_le s k,hd.2,hn0⟩
    clear hn0
    obtain⟨r,wd,hr1,hr2,hr3,hn⟩:=hex
    have hrc:((r:Int)==(c.toNat:Int))=false:=beq_eq_false_iff_ne.2 (by omega)
    have hit2:(wo.iterAt w.heap.size s (k+wd)).heap[w.heap.size]? = some (.stringIter s (k+wd)):=Lib.iterAt_heap _ _ _ _ _ hit
    have HB2:Hid (Below w.heap.size w (wo.iterAt w.heap.size s (k+wd))):=Lib.below_iterAt HB.out (Nat.le_refl _) _ _
    have hlt2:w.heap.size<(wo.iterAt w.heap.size s (k+wd)).heap.size:=(Array.getElem?_eq_some_iff.1 hit2).1
    have HM:Hid (wo.iterPos w.heap.size=k):=iterPos_of hit
    have H2:=Lib.hid (And.intro hit2 (And.intro HB2.out hlt2))
    clear hit2 HB2 hlt2 hit
    go_wp2
    obtain⟨wm,hwm⟩:∃ wm:World,wm=wo.iterAt w.heap.size s (k+wd):=⟨_,rfl⟩
    rw [←hwm] at H2 ⊢
    clear hwm hn
    go_loopw [7,9] (fun v7 _ wr=>∃ p:Nat,p≤1∧wr.heap[wm.heap.size]? = some (.stringIter ⟨#[c]⟩ p)∧Hid (wr.heap[w.heap.size]? = some (.stringIter s (k+wd)))∧Hid (Below w.heap.size w wr)∧v7 = .bool false)
     (fun _ _ wr=>1-wr.iterPos wm.heap.size)
    case atStart=>exact⟨0,by omega,World.iter_heap _ _ _,(Below.heap_alloc _ _ _ H2.out.2.2).trans H2.out.1,(H2.out.2.1.alloc (by have:=H2.out.2.2;omega) _),by rfl⟩
    case round =>
     obtain⟨p,hp,hit3,HI,HB3,rfl⟩:=hrel
     have hlt3:wm.heap.size<wr.heap.size:=(Array.getElem?_eq_some_iff.1 hit3).1
     by_cases hp0:p=0
     ·subst hp0
      have hn:=Lib.run_next_ascii_at (P:=Try.prog) wr wm.heap.size ⟨#[c]⟩ 0 0 hit3 (by show 0<1;omega) hc
      have hn2:(Instr.next (.pointer (some ⟨wm.heap.size,0,none⟩)) true 0).run Try.prog wr = .ok (.tuple #[.bool true,.int .i64 (0:Nat),.int .i32 c.toNat]) (wr.iterAt wm.heap.size ⟨#[c]⟩ 1):=hn
      clear hn
      have hit4:=Lib.iterAt_heap wr wm.heap.size ⟨#[c]⟩ 0 1 hit3
      have HI4:Hid ((wr.iterAt wm.heap.size ⟨#[c]⟩ 1).heap[w.heap.size]? = some (.stringIter s (k+wd))):=(Lib.iterAt_other _ _ _ _ _ (by have:=H2.out.2.2;omega)).trans HI.out
      have HB4:Hid (Below w.heap.size w (wr.iterAt wm.heap.size ⟨#[c]⟩ 1)):=Lib.below_iterAt HB3.out (by have:=H2.out.2.2;omega) _ _
      have HP4:Hid ((wr.iterAt wm.heap.size ⟨#[c]⟩ 1).iterPos wm.heap.size=1):=iterPos_of hit4
      have HP3:Hid (wr.iterPos wm.heap.size=0):=iterPos_of hit3
      have HIT4:=Lib.hid hit4
      clear hit4 hit3
      go_wp2
      go_roundw
      case rel=>exact⟨1,by omega,HIT4.out,HI4,HB4,rfl⟩
      case measure=>rw [HP4.out,HP3.out];omega
     ·have hp1:p=1:=by omega
      subst hp1
      have hn:=Lib.run_next_end_at (P:=Try.prog) wr wm.heap.size ⟨#[c]⟩ 1 0 hit3 (by show ¬ 1<1;omega)
      clear hit3
      go_wp2
      go_ret
      refine⟨?_,HB3.out⟩
      have hend:∀ x,s.data.toList[k]? = some x→x≠c:=fun x hx e=>by
       rw [getElem?_byte s k hlt] at hx
       exact heq ((Option.some.inj hx).trans e)
      rw [cutL_eq c s.data.toList k HC.out hend,←Lib.extract_to_end,toB_data]
      rfl
  ·have hk2:k=s.size:=by omega
   subst hk2
   have hn:=Lib.run_next_end_at (P:=Try.prog) wo w.heap.size s s.size 0 hit hlt
   clear hit
   go_wp2
   go_ret
   refine⟨?_,HB.out⟩
   have hend:∀ x,s.data.toList[s.size]? = some x→x≠c:=fun x hx _=>by
    have:=(List.getElem?_eq_some_iff.1 hx).1
    rw [Array.length_toList] at this
    exact absurd this (Nat.lt_irrefl _)
   rw [cutL_eq c s.data.toList s.size HC.out hend,List.drop_of_length_le (by rw [Array.length_toList];exact Nat.le_refl _)]
   rfl
def isSign (c : UInt8) : Bool := c==60||c==124||c==61||c==62
def runL (l : List UInt8) : Nat := match l with
 | []=>0
 | c::_=>if isSign c then l.length-(cutL c l).length else 0
theorem cutL_le (c : UInt8) (l : List UInt8) : (cutL c l).length≤l.length := by
 have:=(List.dropWhile_sublist (l:=l) (fun x=>x==c)).length_le
 exact this
theorem runL_le (l : List UInt8) : runL l≤l.length := by
 unfold runL
 split
 ·simp
 ·split<;>omega
theorem sign_index (c : UInt8) : decide (0≤Lib.indexByte [60,124,61,62] c)=isSign c := by
 unfold isSign
 simp only [Lib.indexByte]
 by_cases h1:c=60
 ·subst h1;decide
 ·by_cases h2:c=124
  ·subst h2;decide
  ·by_cases h3:c=61
   ·subst h3;decide
   ·by_cases h4:c=62
    ·subst h4;decide
    ·simp [h1,h2,h3,h4,Ne.symm h1,Ne.symm h2,Ne.symm h3,Ne.symm h4]
set_option maxRecDepth 100000 in
set_option maxHeartbeats 2000000 in
theorem run_calls (s : ByteArray) (hsz : s.size≤4000000000) (w : World) :
  Calls Try.prog 43 #[.string s] w fun e w'=>e = .returned (.int .i64 (runL s.data.toList))∧Below w.heap.size w w':=by
 by_cases h0:s.size=0
 ·have hs:s=⟨#[]⟩:=by
   have:s.data.toList=[]:=List.eq_nil_of_length_eq_zero (by rw [Array.length_toList];exact h0)
   rw [←toB_data s,this];rfl
  subst hs
  go_enter Try.func43,Try.ntmps43
  go_wp2
  go_ret
  exact⟨rfl,Below.refl _ _⟩
 ·obtain⟨c,t,hl⟩:∃ c t,s.data.toList=c::t:=by
   cases h:s.data.toList with
   | nil=>exact absurd (by have:=congrArg List.length h;rw [Array.length_toList] at this;exact this) h0
   | cons c t=>exact⟨c,t,rfl⟩
  have hex:s.extract 0 1=⟨#[c]⟩:=by
   rw [←toB_data (s.extract 0 1),Lib.extract_data,hl];rfl
  have hne:(s.toList==([]:List UInt8))=false:=by rw [Lib.toList_data,hl];rfl
  have hne2:s.toList.isEmpty=false:=by rw [Lib.toList_data,hl];rfl
  have HL:=Lib.hid hl
  clear hl
  have hcon:=Try.strings_Contains_one ⟨#[60,124,61,62]⟩ c w
  rw [show (⟨#[60,124,61,62]⟩:ByteArray).data.toList=[60,124,61,62] from rfl,sign_index] at hcon
  have hsz1:(1:Int)≤s.size:=by omega
  by_cases hsg:isSign c=true
  ·rw [hsg] at hcon
   have hc:c.toNat<128:=by
    simp only [isSign,Bool.or_eq_true,beq_iff_eq] at hsg
    rcases hsg with ((rfl|rfl)|rfl)|rfl<;>decide
   have HS:=Lib.hid hsg
   have HCON:=Lib.hid hcon
   have hcut:=cutLeft_calls s hsz c hc w
   have HCUT:=Lib.hid hcut
   clear hsg hcon hcut
   go_enter Try.func43,Try.ntmps43
   go_wp2_with (first|(go_at_call 84;refine HCON.out.mono ?_;rintro e w' ⟨rfl,rfl⟩)|(go_at_call 85;refine HCUT.out.mono ?_;rintro e w' ⟨rfl,hb⟩))
   go_ret
   refine⟨?_,hb⟩
   have e:wrap64 ((s.size:Int)-(cutL c s.data.toList).length)=((s.data.toList.length-(cutL c s.data.toList).length:Nat):Int):=by
    have:=cutL_le c s.data.toList
    have h2:s.data.toList.length=s.size:=by rw [Array.length_toList];rfl
    unfold wrap64;omega
   have HE:=HS.out
   unfold runL
   rw [e]
   simp only [HL.out,HE,if_true]
   rfl
  ·have hsg0:isSign c=false:=by simpa using hsg
   rw [hsg0] at hcon
   have HS:=Lib.hid hsg0
   have HCON:=Lib.hid hcon
   clear hsg hsg0 hcon
   go_enter Try.func43,Try.ntmps43
   go_wp2_with (first|(go_at_call 84;refine HCON.out.mono ?_;rintro e w' ⟨rfl,rfl⟩))
   go_ret
   refine⟨?_,Below.refl _ _⟩
   have HE:=HS.out
   unfold runL
   simp only [HL.out,HE]
   rfl
#print axioms run_calls
theorem ext_split (a0 : ByteArray) (r : List ByteArray) (w : World) (h : (if a0.size≤4000000000 then some (splitB a0) else none)=some r) :
  Calls Try.prog 29 #[.string a0] w fun e w'=>∃ v0_:Value,e = .returned (v0_)∧Kd.R Kd.string 9 w' w.heap.size (fun _=>True) v0_ r∧Below w.heap.size w w':=by
 by_cases hs:a0.size≤4000000000
 ·rw [if_pos hs] at h
  obtain rfl:=Option.some.inj h
  refine (split_calls a0 hs w).mono ?_
  rintro e w' ⟨v,rfl,hr,hb⟩
  exact⟨v,rfl,Kd.R_of_own hr (fun _ _=>trivial),hb⟩
 ·rw [if_neg hs] at h;cases h
theorem ext_run (a0 : ByteArray) (r : Int) (w : World) (h : (if a0.size≤4000000000 then some ((runL a0.data.toList : Nat) : Int) else none)=some r) :
  Calls Try.prog 43 #[.string a0] w fun e w'=>e = .returned (.int .i64 r)∧Below w.heap.size w w':=by
 by_cases hs:a0.size≤4000000000
 ·rw [if_pos hs] at h
  obtain rfl:=Option.some.inj h
  exact run_calls a0 hs w
 ·rw [if_neg hs] at h;cases h
theorem one_byte (a : ByteArray) (h : a.size=1) : a=⟨#[a.data.toList.headD 0]⟩ := by
 have hl:a.data.toList.length=1:=by rw [Array.length_toList];exact h
 obtain⟨c,hc⟩:∃ c,a.data.toList=[c]:=List.length_eq_one_iff.1 hl
 rw [←toB_data a,hc];rfl
theorem ext_contains (a0 a1 : ByteArray) (r : Bool) (w : World) (h : (if a1.size=1 then some (decide (0≤Lib.indexByte a0.data.toList (a1.data.toList.headD 0))) else none)=some r) :
  Calls Try.prog 84 #[.string a0,.string a1] w fun e w'=>e = .returned (.bool r)∧Drawn0 w w':=by
 by_cases hs:a1.size=1
 ·rw [if_pos hs] at h
  obtain rfl:=Option.some.inj h
  have:=Try.strings_Contains_one a0 (a1.data.toList.headD 0) w
  rw [←one_byte a1 hs] at this
  refine this.mono ?_
  rintro e w' ⟨rfl,rfl⟩
  exact⟨rfl,Drawn0.refl _⟩
 ·rw [if_neg hs] at h;cases h
theorem C_string_cells {w : World} {A : Option Addr} {xs : List ByteArray} (h : Kd.C Kd.string w A xs.length xs) (hn : 0<xs.length) :
  ∃ b o,A=some ⟨b,o,none⟩∧b<w.heap.size∧∀ j x,xs[j]? = some x→w.cell? ⟨b,o+j,none⟩=some (.string x):=by
 obtain⟨ad,rfl,hc⟩:=h.2.2 hn
 have h0:∀ j x,xs[j]? = some x→w.cell? (ad.add j)=some (.string x):=by
  intro j x hj
  obtain⟨c,hl,hk,hcell⟩:=hc j x hj
  have hk':c=[Value.string x]:=hk
  have:=hcell 0 (.string x) (by rw [hk'];rfl)
  simpa [show (Kd.string).sz=1 from rfl] using this
 obtain⟨x0,hx0⟩:∃ x,xs[0]? = some x:=⟨_,List.getElem?_eq_getElem hn⟩
 obtain⟨b,o,sp⟩:=ad
 have hcell0:=h0 0 x0 hx0
 have hsp:sp=none:=by
  cases sp with
  | none=>rfl
  | some q =>
   exfalso
   simp [Addr.add,World.cell?] at hcell0
   split at hcell0<;>simp_all
 subst hsp
 refine⟨b,o,rfl,World.block_lt_of_cell? w _ hcell0,fun j x hj=>?_⟩
 have:=h0 j x hj
 unfold Addr.add at this
 split at this
 ·rename_i hj0;subst hj0;exact this
 ·exact this
def joinB (l : List ByteArray) (sep : ByteArray) : ByteArray := toB (Lib.join (l.map (·.data.toList)) sep.data.toList)
theorem ext_join (A0 : Option Addr) (c0 : Nat) (l0 : List ByteArray) (a1 : ByteArray) (r : ByteArray) (w : World) (hr0 : Kd.C Kd.string w A0 l0.length l0) (hc0 : l0.length≤c0)
  (h:(if l0.length≤140737488355328∧(joinB l0 a1).size≤140737488355328 then some (joinB l0 a1) else none)=some r) :
  Calls Try.prog 81 #[.slice A0 l0.length c0,.string a1] w fun e w'=>e = .returned (.string r)∧Below w.heap.size w w':=by
 by_cases hs:l0.length≤140737488355328∧(joinB l0 a1).size≤140737488355328
 ·rw [if_pos hs] at h
  obtain rfl:=Option.some.inj h
  obtain⟨h1,h2⟩:=hs
  rw [joinB,toB_size] at h2
  by_cases hn:l0.length=0
  ·have hnil:l0=[]:=List.eq_nil_of_length_eq_zero hn
   subst hnil
   refine (Try.strings_Join_none A0 c0 a1 w).mono ?_
   rintro e w' ⟨rfl,rfl⟩
   exact⟨rfl,Below.refl _ _⟩
  ·obtain⟨b,o,rfl,hb,hcell⟩:=C_string_cells hr0 (by omega)
   refine (Try.strings_Join b o c0 l0 a1 w hcell hb h1 hc0 h2).mono ?_
   rintro e w' ⟨rfl,hb⟩
   exact⟨rfl,hb⟩
 ·rw [if_neg hs] at h;cases h
theorem ext_clone (A0 : Option Addr) (c0 : Nat) (l0 : List ByteArray) (r : List ByteArray) (w : World) (hr0 : Kd.C Kd.string w A0 l0.length l0) (hc0 : l0.length≤c0)
  (h:(if l0.length≤4000000000 then some l0 else none)=some r) :
  Calls Try.prog 108 #[.slice A0 l0.length c0] w fun e w'=>∃ v0_:Value,e = .returned (v0_)∧Kd.R Kd.string 9 w' w.heap.size (fun _=>True) v0_ r∧Below w.heap.size w w':=by
 by_cases hs:l0.length≤4000000000
 ·rw [if_pos hs] at h
  obtain rfl:=Option.some.inj h
  by_cases hn:l0.length=0
  ·have hnil:l0=[]:=List.eq_nil_of_length_eq_zero hn
   subst hnil
   cases A0 with
   | none =>
    refine (Try.slices_Clone_string_nil 0 c0 w).mono ?_
    rintro e w' ⟨rfl,rfl⟩
    exact⟨_,rfl,Kd.R_nil _ _ _ _ _,Below.refl _ _⟩
   | some a =>
    refine (Try.slices_Clone_string_zero a c0 w).mono ?_
    rintro e w' ⟨v,rfl,hr,_,hb⟩
    exact⟨_,rfl,Kd.R_of_own hr (fun _ _=>trivial),hb⟩
  ·obtain⟨b,o,rfl,hb,hcell⟩:=C_string_cells hr0 (by omega)
   refine (Try.slices_Clone_string b o l0.length c0 l0 w (Nat.le_refl _) (by omega) (fun j hj=>?_)).mono ?_
   ·rw [List.getD_eq_getElem?_getD,List.getElem?_eq_getElem hj]
    exact hcell j _ (List.getElem?_eq_getElem hj)
   ·rintro e w' ⟨v,rfl,hr,_,hb⟩
    rw [List.take_length] at hr
    exact⟨_,rfl,Kd.R_of_own hr (fun _ _=>trivial),hb⟩
 ·rw [if_neg hs] at h;cases h
end Go.Proofs.Ytfiamddinkokbaa
end
