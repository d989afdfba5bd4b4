/- Texts joined into one file (wip/tools/pack.py): Pure07, PureOf, PureLines, PureMark, PureMark2, PureDoc, PureDoc2 -/
import Derived.Test.YtfiamddinkokbaaTA39
import Derived.Test.YtfiamddinkokbaaTA20
import Derived.Test.YtfiamddinkokbaaTA15
import Derived.Test.YtfiamddinkokbaaTA16
import Derived.Test.YtfiamddinkokbaaTA21
import Derived.Test.YtfiamddinkokbaaTA23
set_option linter.unusedVariables false
set_option linter.unusedSimpArgs false
section
namespace Go.Proofs.Ytfiamddinkokbaa.F
open Go.RowKit Go.Proofs.YtfiamddinkokbaaW.PrintWords Go.Proofs.YtfiamddinkokbaaW.PrintLast Go.Proofs.YtfiamddinkokbaaW.PrintMore
def runAll (l : List ByteArray) (n : Int) : Int := l.foldl (fun n s=>mx n (textRun s)) n
theorem doc_run_in (ls : List ByteArray) (hN : ls.length≤4000000000) (hs : ∀ s∈ls,s.size≤4000000000) :
  ∀ (rest done:List ByteArray) (x i:Int),ls=done++rest→i=done.length→Ev (fun k=>doc_run.l0 k x ls (ls.length:Int) i) (runAll rest x)
 | [],done,x,i,hl,ei=>by
  refine Ev.succ ?_
  simp only [doc_run.l0]
  refine Ev.neg (by rw [hl];simp;omega) (Ev.val rfl)
 | s::rest,done,x,i,hl,ei=>by
  have hsz:ls.length=done.length+(rest.length+1):=by rw [hl];simp
  have hw:wrap64 (i+1)=i+1:=wrap_in (by omega) (by omega)
  have hb:rdOf ByteArray.empty ls i=s:=rdOf_at _ ls i done rest s hl ei
  have hS:s.size≤4000000000:=hs s (by rw [hl];simp)
  refine Ev.succ ?_
  simp only [doc_run.l0,hw,hb]
  refine Ev.pos (by omega) (Ev.pos (by omega) (Ev.pos (by omega) (Ev.bind (Ev.const (lines_split s hS)) (Ev.bind (lines_longest [splitB s] (by simp) ?_ ?_) ?_))))
  ·intro l hm;rw [List.mem_singleton.1 hm];have:=splitB_length s;omega
  ·intro l hm;rw [List.mem_singleton.1 hm];intro x hx;have:=splitB_mem s x hx;omega
  ·exact doc_run_in ls hN hs rest (done++[s]) _ (i+1) (by rw [hl];simp) (by simp;omega)
theorem ev_doc_run (ls : List ByteArray) (hN : ls.length≤4000000000) (hs : ∀ s∈ls,s.size≤4000000000) : Ev (fun k=>doc_run.f k ls) (runAll ls 0) := doc_run_in ls hN hs ls [] 0 0 rfl rfl
theorem ev_doc_width (n : Int) (ls : List ByteArray) (hN : ls.length≤4000000000) (hs : ∀ s∈ls,s.size≤4000000000) : Ev (fun k=>doc_Width.f k n ls) (mx n (wrap64 (runAll ls 0+1))) :=
 Ev.bind (ev_doc_run ls hN hs) (Ev.val rfl)
def to106 (x : S109) : S106 := ⟨⟨x.f0,x.f1,x.f2⟩,x.f3,x.f4,x.f5,x.f6,x.f7,x.f8⟩
def isTextP (x : S109) : Bool := x.f0.toList.isEmpty&&(x.f1.toList.isEmpty&&(x.f2.toList.isEmpty&&(!x.f3&&(x.f5.toList.isEmpty&&(x.f6.toList.isEmpty&&(x.f7.toList.isEmpty&&(!x.f8)))))))
def isNoneP (x : S109) : Bool := isTextP x&&x.f4.toList.isEmpty
def joinP (z p : S109) : S109 := ⟨z.f0,z.f1,z.f2,z.f3,z.f4++p.f4,z.f5,z.f6,z.f7,z.f8⟩
def ofStep (out : List S109) (p : S109) : List S109 :=
 if isNoneP p=true then out
 else match out.getLast? with
  | none=>out++[p]
  | some z=>if isTextP p=true∧isTextP z=true then out.dropLast++[joinP z p] else out++[p]
def ofP (l : List S109) : List S109 := l.foldl ofStep []
theorem ofStep_none (out : List S109) (p : S109) (h : isNoneP p=true) : ofStep out p=out := by unfold ofStep;rw [if_pos h]
theorem ofStep_nil (p : S109) (h : ¬ isNoneP p=true) : ofStep [] p=[p] := by unfold ofStep;rw [if_neg h];rfl
theorem ofStep_join (u : List S109) (z p : S109) (h : ¬ isNoneP p=true) (hp : isTextP p=true) (hz : isTextP z=true) : ofStep (u++[z]) p=u++[joinP z p] := by
 unfold ofStep;rw [if_neg h,List.getLast?_concat];simp [hp,hz]
theorem ofStep_put (u : List S109) (z p : S109) (h : ¬ isNoneP p=true) (hn : ¬ (isTextP p=true∧isTextP z=true)) : ofStep (u++[z]) p=u++[z]++[p] := by
 unfold ofStep;rw [if_neg h,List.getLast?_concat];simp only [if_neg hn]
def textSum (l : List S109) : Nat := (l.map fun x=>x.f4.size).sum
theorem empty_toList (s : ByteArray) : s.toList.isEmpty=true↔s.size=0 := by
 rw [bytes_toList,List.isEmpty_iff,←size_data];exact⟨fun h=>by rw [h];rfl,fun h=>List.length_eq_zero_iff.1 h⟩
theorem step_bound (M : Nat) (out : List S109) (p : S109) (h : ∀ x∈out,x.f4.size≤M) : (ofStep out p).length≤out.length+1∧∀ x∈ofStep out p,x.f4.size≤M+p.f4.size := by
 by_cases hn:isNoneP p=true
 ·rw [ofStep_none out p hn];exact⟨by omega,fun x hx=>by have:=h x hx;omega⟩
 ·rcases List.eq_nil_or_concat out with rfl|⟨u0,z,rfl⟩
  ·rw [ofStep_nil p hn];exact⟨by simp,fun x hx=>by rw [List.mem_singleton.1 hx];omega⟩
  ·rw [List.concat_eq_append] at h ⊢
   by_cases hb:isTextP p=true∧isTextP z=true
   ·rw [ofStep_join u0 z p hn hb.1 hb.2]
    refine⟨by simp,fun x hx=>?_⟩
    rcases List.mem_append.1 hx with hx|hx
    ·have:=h x (List.mem_append_left _ hx);omega
    ·rw [List.mem_singleton.1 hx]
     have:=h z (by simp)
     simp only [joinP,ByteArray.size_append];omega
   ·rw [ofStep_put u0 z p hn hb]
    refine⟨by simp,fun x hx=>?_⟩
    rcases List.mem_append.1 hx with hx|hx
    ·have:=h x hx;omega
    ·rw [List.mem_singleton.1 hx];omega
theorem rd106_at (l : List S106) (i : Int) (xs ys : List S106) (c : S106) (h : l=xs++c::ys) (hi : i=xs.length) : rd_T106 l i=c := by
 subst h hi;unfold rd_T106;simp [List.getD_eq_getElem?_getD]
theorem rd106_map (l : List S109) (i : Int) (xs ys : List S109) (c : S109) (h : l=xs++c::ys) (hi : i=xs.length) : rd_T106 (l.map to106) i=to106 c :=
 rd106_at _ i (xs.map to106) (ys.map to106) (to106 c) (by rw [h];simp) (by simpa using hi)
theorem set_last {α : Type} (u : List α) (z z' : α) (i : Int) (hi : i=u.length) : (u++[z]).set i.toNat z'=u++[z'] := by
 subst hi;rw [Int.toNat_natCast,List.set_append_right _ _ (Nat.le_refl _)];simp
theorem doc_of_in (l : List S109) (hn : l.length≤4000000000) (ht : textSum l≤4000000000) :
  ∀ (rest done out:List S109) (i:Int) (M:Nat),l=done++rest→i=done.length→out.length≤done.length→(∀ x∈out,x.f4.size≤M)→M+textSum rest≤4000000000 →
  Ev (fun k=>doc_Of.l0 k (out.map to106) (l.map to106) ((l.map to106).length:Int) i) ((rest.foldl ofStep out).map to106)
 | [],done,out,i,M,hl,ei,ho,hm,hM=>by
  refine Ev.succ ?_
  simp only [doc_Of.l0]
  refine Ev.neg (by rw [hl];simp;omega) (Ev.val rfl)
 | p::rest,done,out,i,M,hl,ei,ho,hm,hM=>by
  have hsz:l.length=done.length+(rest.length+1):=by rw [hl];simp
  have hw:wrap64 (i+1)=i+1:=wrap_in (by omega) (by omega)
  obtain⟨hb1,hb2⟩:=step_bound M out p hm
  have hts:textSum (p::rest)=p.f4.size+textSum rest:=by simp [textSum]
  have again:=doc_of_in l hn ht rest (done++[p]) (ofStep out p) (i+1) (M+p.f4.size) (by rw [hl];simp) (by simp;omega) (by simp;omega) hb2 (by omega)
  have hlm:((l.map to106).length:Int)=l.length:=by simp
  refine Ev.succ ?_
  simp only [doc_Of.l0,hw,rd106_map l i done rest p hl ei]
  refine Ev.pos (by rw [hlm];omega) (Ev.pos (by omega) (Ev.pos (by rw [hlm];omega) ?_))
  have hcond:(((to106 p).f0.f0.toList.isEmpty&&((to106 p).f0.f1.toList.isEmpty&&(to106 p).f0.f2.toList.isEmpty))&&(!(to106 p).f1&&((to106 p).f2.toList.isEmpty&&((to106 p).f3.toList.isEmpty&&((to106 p).f4.toList.isEmpty&&((to106 p).f5.toList.isEmpty&&(!(to106 p).f6)))))))=isNoneP p:=by
   unfold isNoneP isTextP to106
   cases p.f0.toList.isEmpty<;>cases p.f1.toList.isEmpty<;>cases p.f2.toList.isEmpty<;>cases p.f3<;>cases p.f4.toList.isEmpty<;>cases p.f5.toList.isEmpty<;>cases p.f6.toList.isEmpty<;>cases p.f7.toList.isEmpty<;>cases p.f8<;>rfl
  have htext:∀ q:S109,doc_Part_isText.f (to106 q).f0.f0 (to106 q).f0.f1 (to106 q).f0.f2 (to106 q).f1 (to106 q).f2 (to106 q).f3 (to106 q).f4 (to106 q).f5 (to106 q).f6=some (isTextP q):=by
   intro q
   unfold doc_Part_isText.f isTextP to106
   congr 1
   cases q.f0.toList.isEmpty<;>cases q.f1.toList.isEmpty<;>cases q.f2.toList.isEmpty<;>cases q.f3<;>cases q.f5.toList.isEmpty<;>cases q.f6.toList.isEmpty<;>cases q.f7.toList.isEmpty<;>cases q.f8<;>rfl
  simp only [hcond]
  by_cases hnone:isNoneP p=true
  ·refine Ev.pos hnone ?_
   rw [List.foldl_cons,ofStep_none out p hnone]
   rw [ofStep_none out p hnone] at again
   exact again
  ·refine Ev.neg hnone (Ev.bind (Ev.const (htext p)) ?_)
   have put:ofStep out p=out++[p]→Ev (fun k=>if (out.map to106).length<1099511627776 then doc_Of.l0 k (out.map to106++[(⟨(⟨(to106 p).f0.f0,(to106 p).f0.f1,(to106 p).f0.f2⟩:S84),(to106 p).f1,(to106 p).f2,(to106 p).f3,(to106 p).f4,(to106 p).f5,(to106 p).f6⟩:S106)]) (l.map to106) ((l.map to106).length:Int) (i+1) else none) (((p::rest).foldl ofStep out).map to106):=by
    intro e
    refine Ev.pos (by simp;omega) ?_
    rw [List.foldl_cons,e]
    rw [e,List.map_append] at again
    exact again
   by_cases hp:isTextP p=true
   ·refine Ev.pos hp ?_
    rcases List.eq_nil_or_concat out with rfl|⟨u,z,rfl⟩
    ·refine Ev.neg (by simp) (put (ofStep_nil p hnone))
    ·rw [List.concat_eq_append] at *
     have hul:(((u++[z]).map to106).length:Int)=u.length+1:=by simp
     have hwl:wrap64 ((((u++[z]).map to106).length:Int)-1)=u.length:=by rw [hul,wrap_in (by simp at ho;omega) (by simp at ho;omega)];omega
     have hrd:rd_T106 ((u++[z]).map to106) (u.length:Int)=to106 z:=rd106_map (u++[z]) _ u [] z rfl rfl
     simp only [hwl,hrd]
     refine Ev.pos (by rw [hul];omega) (Ev.pos (by omega) (Ev.pos (by rw [hul];omega) (Ev.bind (Ev.const (htext z)) ?_)))
     by_cases hz:isTextP z=true
     ·refine Ev.pos hz (Ev.pos ?_ ?_)
      ·have:=hm z (by simp)
       show z.f4.size+p.f4.size≤9223372036854775807
       omega
      ·rw [List.foldl_cons]
       rw [ofStep_join u z p hnone hp hz] at again ⊢
       have e:((u++[z]).map to106).set (u.length:Int).toNat (to106 (joinP z p))=(u++[joinP z p]).map to106:=by
        rw [List.map_append,List.map_append,List.map_singleton,List.map_singleton,set_last _ _ _ _ (by simp)]
       rw [←e] at again
       exact again
     ·exact Ev.neg hz (put (ofStep_put u z p hnone (fun hc=>hz hc.2)))
   ·refine Ev.neg hp ?_
    rcases List.eq_nil_or_concat out with rfl|⟨u,z,rfl⟩
    ·exact put (ofStep_nil p hnone)
    ·rw [List.concat_eq_append] at *
     exact put (ofStep_put u z p hnone (fun hc=>hp hc.1))
theorem ev_doc_of (l : List S109) (hn : l.length≤4000000000) (ht : textSum l≤4000000000) : Ev (fun k=>doc_Of.f k (l.map to106)) ((ofP l).map to106) :=
 doc_of_in l hn ht l [] [] 0 0 rfl rfl (Nat.le_refl _) (fun x hx=>(by cases hx)) (by omega)
def sizesP (x : S109) : Nat := x.f4.size+x.f5.size+x.f6.size+x.f7.size+x.f0.size+x.f1.size+x.f2.size
theorem nl_cases : ∀ p : List UInt8,(10 : UInt8)∉p∨∃ q r,(10 : UInt8)∉q∧p=q++10::r
 | [] => .inl (by simp)
 | c::p=>by
  by_cases hc:c=10
  ·subst hc;exact .inr ⟨[],p,by simp,rfl⟩
  ·rcases nl_cases p with h|⟨q,r,hq,rfl⟩
   ·left;simp [h];exact fun e=>hc e.symm
   ·right;refine⟨c::q,r,?_,rfl⟩;simp [hq];exact fun e=>hc e.symm
theorem index_no : ∀ p : List UInt8,(10 : UInt8)∉p→Lib.indexByte p 10 = -1
 | [],_=>rfl
 | c::p,h=>by
  have hc:(c==10)=false:=by simpa using fun e:c=10=>h (by simp [e])
  have ih:=index_no p (fun e=>h (by simp [e]))
  unfold Lib.indexByte;simp [hc,ih]
theorem index_at : ∀ q r : List UInt8,(10 : UInt8)∉q→Lib.indexByte (q++10::r) 10=q.length
 | [],r,_=>by simp [Lib.indexByte]
 | c::q,r,h=>by
  have hc:(c==10)=false:=by simpa using fun e:c=10=>h (by simp [e])
  have ih:=index_at q r (fun e=>h (by simp [e]))
  rw [List.cons_append]
  unfold Lib.indexByte
  rw [ih]
  have:¬ ((q.length:Int) = -1):=by omega
  simp [hc,this]
def oneL (p : List UInt8) : Bool := (splitL p).length==1
def endsL (p : List UInt8) : Bool := p.getLast? == some 10
theorem oneL_no (p : List UInt8) (h : (10 : UInt8)∉p) : oneL p = !p.isEmpty := by
 unfold oneL
 cases p with
 | nil=>rfl
 | cons c p=>rw [splitL_last (c::p) (by simp) h];rfl
theorem oneL_at (q r : List UInt8) (h : (10 : UInt8)∉q) : oneL (q++10::r)=r.isEmpty := by
 unfold oneL
 rw [splitL_line q r h]
 cases r with
 | nil=>rfl
 | cons c r =>
  have:splitL (c::r)≠[]:=fun e=>by simp [splitL_nil_iff] at e
  cases hs:splitL (c::r) with
  | nil=>exact absurd hs this
  | cons a b=>simp [hs]
theorem endsL_no (p : List UInt8) (h : (10 : UInt8)∉p) : endsL p=false := by
 unfold endsL
 rcases List.eq_nil_or_concat p with rfl|⟨u,z,rfl⟩
 ·rfl
 ·rw [List.concat_eq_append] at h ⊢
  rw [List.getLast?_concat]
  have:z≠10:=fun e=>h (by simp [e])
  simpa using this
def wholeP : List ByteArray→Bool
 | []=>true
 | [x]=>oneL x.data.toList
 | x::y::r=>oneL x.data.toList&&(endsL x.data.toList&&wholeP (y::r))
theorem wholeP_cons (x : ByteArray) (r : List ByteArray) : wholeP (x::r)=(oneL x.data.toList&&((r.isEmpty||endsL x.data.toList)&&wholeP r)) := by
 cases r with
 | nil=>simp [wholeP]
 | cons y r=>simp [wholeP]
theorem toList_inj {a b : ByteArray} (h : a.toList=b.toList) : a=b := bytes_ext (by rw [←bytes_toList,←bytes_toList,h])
def catB (l : List ByteArray) : ByteArray := toB (l.flatMap fun s=>s.data.toList)
theorem joinB_empty (l : List ByteArray) : joinB l ⟨#[]⟩=catB l := by
 unfold joinB catB
 congr 1
 cases l with
 | nil=>rfl
 | cons x r =>
  rw [List.map_cons,Lib.join_cons]
  simp [Lib.joinTail,List.flatMap]
  rfl
theorem lines_join (l : List ByteArray) (hn : l.length≤4000000000) (hs : (catB l).size≤4000000000) : lines_Join.f l=some (catB l) := by
 unfold lines_Join.f strings_Join.f
 rw [joinB_empty,if_pos ⟨by omega,by omega⟩];rfl
theorem split_flat : ∀ p : List UInt8,(splitL p).flatten=p := by
 intro p
 induction h:p.length using Nat.strongRecOn generalizing p with
 | ind n ih =>
  by_cases hp:p=[]
  ·subst hp;rfl
  ·rw [splitL_next p hp,List.flatten_cons]
   have ht:=congrArg List.length (take_drop_line p)
   rw [List.length_append] at ht
   have hpos:0<(takeLine p).length:=by
    cases p with
    | nil=>exact absurd rfl hp
    | cons c t=>simp only [takeLine];split<;>simp
   rw [ih (dropLine p).length (by omega) _ rfl,take_drop_line]
theorem cat_split (s : ByteArray) : catB (splitB s)=s := by
 refine bytes_ext ?_
 unfold catB splitB
 rw [data_toB,List.flatMap_map]
 have:(splitL s.data.toList).flatMap (fun a=>(toB a).data.toList)=(splitL s.data.toList).flatten:=by
  simp [List.flatMap]
 rw [this,split_flat]
theorem split_cat : ∀ l : List ByteArray,wholeP l=true→splitB (catB l)=l
 | [],_=>rfl
 | x::r,h=>by
  rw [wholeP_cons] at h
  simp only [Bool.and_eq_true] at h
  obtain⟨h1,h2,h3⟩:=h
  have ih:=split_cat r h3
  have hc:(catB (x::r)).data.toList=x.data.toList++(catB r).data.toList:=by simp [catB]
  unfold splitB at ih ⊢
  rw [hc]
  rcases nl_cases x.data.toList with hno|⟨q,s,hq,hx⟩
  ·rw [endsL_no _ hno] at h2
   have hr:r=[]:=by cases r with
    | nil=>rfl
    | cons a b=>simp at h2
   subst hr
   rw [oneL_no _ hno] at h1
   have hne:x.data.toList≠[]:=fun e=>by rw [e] at h1;simp at h1
   have:(catB []).data.toList=[]:=rfl
   rw [this,List.append_nil,splitL_last _ hne hno,List.map_singleton,toB_data]
  ·rw [hx,oneL_at q s hq] at h1
   have hs:s=[]:=by simpa using h1
   subst hs
   have:q++[10]++(catB r).data.toList=q++10::(catB r).data.toList:=by simp
   rw [hx,this,splitL_line q _ hq,List.map_cons,ih,←hx,toB_data]
theorem lineless_iff (s : ByteArray) : lineless s=decide ((10 : UInt8)∈s.data.toList) := by
 unfold lineless
 rcases nl_cases s.data.toList with h|⟨q,r,h,e⟩
 ·rw [index_no _ h];simp [h]
 ·rw [e,index_at q r h];simp
theorem toB_toList (l : List UInt8) : (toB l).toList=l := by rw [bytes_toList,data_toB]
theorem extract_data (s : ByteArray) (i j : Nat) : (s.extract i j).data.toList=(s.data.toList.take j).drop i := by
 rw [ByteArray.data_extract,Array.toList_extract]
 simp [List.extract_eq_take_drop,List.drop_take]
theorem extract_drop (s : ByteArray) (i : Nat) : s.extract i s.size=toB (s.data.toList.drop i) := bytes_ext (by rw [extract_data,data_toB,List.take_of_length_le (by rw [size_data];omega)])
theorem sufx (s : ByteArray) (hs4 : s.size≤4000000000) : strings_HasSuffix.f s ⟨#[10]⟩=some (endsL s.data.toList) := by
 have h1:(⟨#[10]⟩:ByteArray).size=1:=rfl
 unfold strings_HasSuffix.f stringslite_HasSuffix.f
 rw [h1]
 by_cases hs:1≤s.size
 ·have e1:wrap64 ((s.size:Int)-((1:Nat):Int))=(s.size:Int)-1:=wrap_in (by omega) (by omega)
  rw [if_pos (by omega),e1,if_pos (by omega),if_pos (by omega)]
  rw [show ((s.size:Int)-1).toNat=s.size-1 by omega,extract_drop,toB_toList,show (⟨#[10]⟩:ByteArray).toList=[10] from by rw [bytes_toList]]
  unfold endsL
  rcases List.eq_nil_or_concat s.data.toList with h|⟨u,z,h⟩
  ·exfalso;have:=size_data s;rw [h] at this;simp at this;omega
  ·rw [List.concat_eq_append] at h
   have hz:s.size-1=u.length:=by have:=size_data s;rw [h] at this;simp at this;omega
   rw [h,hz,List.drop_append_of_le_length (Nat.le_refl _),List.drop_length,List.getLast?_concat]
   simp only [List.nil_append,Option.bind_some]
   by_cases e:z=10<;>simp [e]
 ·rw [if_neg (by omega)]
  have:s.data.toList=[]:=List.length_eq_zero_iff.1 (by rw [size_data];omega)
  rw [this];rfl

def confP (x : S109) : Bool := x.f3&&(x.f4.toList.isEmpty&&(x.f8||(x.f6.toList.isEmpty&&x.f1.toList.isEmpty)))
def oneP (x : S109) : Bool := isTextP x||confP x
def plainP (x : S109) : Bool := !lineless x.f0&&(!lineless x.f1 && !lineless x.f2)
def rightP : Bool→List S109→Bool
 | _,[]=>true
 | tx,x::r=>oneP x&&(plainP x&&((!isTextP x||(!tx&&(!x.f4.toList.isEmpty&&(r.isEmpty||endsL x.f4.data.toList))))&&rightP (isTextP x) r))
theorem rightP_cons (tx : Bool) (x : S109) (r : List S109) : rightP tx (x::r)=(oneP x&&(plainP x&&((!isTextP x||(!tx&&(!x.f4.toList.isEmpty&&(r.isEmpty||endsL x.f4.data.toList))))&&rightP (isTextP x) r))) := by rw [rightP]
theorem isText_f (x : S109) : doc_Part_isText.f (to106 x).f0.f0 (to106 x).f0.f1 (to106 x).f0.f2 (to106 x).f1 (to106 x).f2 (to106 x).f3 (to106 x).f4 (to106 x).f5 (to106 x).f6=some (isTextP x) := by
 unfold doc_Part_isText.f isTextP to106
 congr 1
 simp only [Bool.and_assoc]
theorem isEmpty_iff {l : List UInt8} : l.isEmpty=true↔l=[] := List.isEmpty_iff
theorem toList_empty (s : ByteArray) : (s.toList==([] : List UInt8))=s.toList.isEmpty := by
 cases s.toList<;>rfl
theorem isConf_f (x : S109) (hs : x.f6.size+x.f1.size≤4000000000) : doc_Part_isConflict.f (to106 x).f0.f0 (to106 x).f0.f1 (to106 x).f0.f2 (to106 x).f1 (to106 x).f2 (to106 x).f3 (to106 x).f4 (to106 x).f5 (to106 x).f6=some (confP x) := by
 unfold doc_Part_isConflict.f confP to106
 simp only
 cases x.f3 with
 | false=>rw [if_neg (by simp)];rfl
 | true =>
  rw [if_pos rfl]
  by_cases h4:x.f4.toList=([]:List UInt8)
  ·rw [if_pos h4,h4]
   cases x.f8 with
   | true=>rw [if_pos rfl];rfl
   | false =>
    rw [if_neg (by simp),if_pos (by omega),toList_empty,bytes_toList,ByteArray.data_append,Array.toList_append,bytes_toList,bytes_toList]
    cases x.f6.data.toList<;>rfl
  ·rw [if_neg h4]
   have:x.f4.toList.isEmpty=false:=by cases hx:x.f4.toList with|nil=>exact absurd hx h4|cons a t=>rfl
   rw [this];rfl
theorem lineless_app (a b : ByteArray) : lineless (a++b)=(lineless a||lineless b) := by
 rw [lineless_iff,lineless_iff,lineless_iff,ByteArray.data_append,Array.toList_append]
 by_cases h1:(10:UInt8)∈a.data.toList<;>by_cases h2:(10:UInt8)∈b.data.toList<;>simp [h1,h2]
theorem labels_plain (a b c : ByteArray) (hs : a.size+b.size+c.size≤4000000000) : doc_Labels_Plain.f a b c=some (!lineless a&&(!lineless b && !lineless c)) := by
 unfold doc_Labels_Plain.f
 rw [if_pos (by omega),if_pos (by rw [ByteArray.size_append];omega)]
 unfold strings_Contains.f
 rw [if_pos (show (⟨#[10]⟩:ByteArray).size=1 from rfl)]
 show some (!lineless (a++b++c))=_
 rw [lineless_app,lineless_app]
 cases lineless a<;>cases lineless b<;>cases lineless c<;>rfl
theorem sizes_le {x : S109} {M : Nat} (h : sizesP x≤M) : x.f0.size≤M∧x.f1.size≤M∧x.f2.size≤M∧x.f4.size≤M∧x.f5.size≤M∧x.f6.size≤M∧x.f7.size≤M∧x.f0.size+x.f1.size+x.f2.size≤M∧x.f6.size+x.f1.size≤M := by
 unfold sizesP at h;omega
theorem doc_right_in (n : Int) : ∀ (l : List S109) (tx : Bool) (i : Int),i+l.length=n→(∀ x∈l,sizesP x≤1000000000)→rightL n (l.map to106) tx i=some (rightP tx l)
 | [],tx,i,hi,hs=>rfl
 | x::rest,tx,i,hi,hs=>by
  have hx:=sizes_le (hs x (List.mem_cons_self ..))
  have next:=fun tx'=>doc_right_in n rest tx' (i+1) (by simp at hi;omega) (fun y hy=>hs y (List.mem_cons_of_mem _ hy))
  have e0:isTextX (to106 x)=some (isTextP x):=isText_f x
  have e1:=isConf_f x (by omega)
  have e2:doc_Labels_Plain.f (to106 x).f0.f0 (to106 x).f0.f1 (to106 x).f0.f2=some (plainP x):=labels_plain _ _ _ (by show x.f0.size+x.f1.size+x.f2.size≤_;omega)
  have e3:strings_HasSuffix.f (to106 x).f2 ⟨#[10]⟩=some (endsL x.f4.data.toList):=sufx x.f4 (by omega)
  have e4:(to106 x).f2=x.f4:=rfl
  have c:(if isTextP x=true then some true else some (confP x))=some (oneP x):=by unfold oneP;cases isTextP x<;>rfl
  rw [List.map,rightL,rightP,e0,Option.bind_some,e1,c,Option.bind_some,e2,e3,e4]
  cases oneP x with
  | false=>rfl
  | true =>
   rw [if_pos rfl,Option.bind_some]
   cases plainP x with
   | false=>rfl
   | true =>
    rw [if_pos rfl]
    cases ht:isTextP x with
    | false=>rw [if_neg (by simp),next];simp
    | true =>
     rw [if_pos rfl]
     cases tx with
     | true=>rfl
     | false =>
      rw [if_neg (by simp)]
      by_cases he:x.f4.toList=([]:List UInt8)
      ·rw [if_pos he,he];rfl
      ·have he2:x.f4.toList.isEmpty=false:=by cases hx:x.f4.toList with|nil=>exact absurd hx he|cons a t=>rfl
       rw [if_neg he,he2,next]
       cases rest with
       | nil=>rw [if_neg (by simp at hi;omega)];rfl
       | cons y rest =>
        rw [if_pos (by simp at hi;omega),Option.bind_some]
        cases endsL x.f4.data.toList<;>simp
theorem ev_doc_right (l : List S109) (hn : l.length≤4000000000) (hs : ∀ x∈l,sizesP x≤1000000000) : Ev (fun k=>doc_Doc_Right.f k (l.map to106)) (rightP false l) := by
 refine Ev.const ?_
 show rightF (l.map to106)=_
 unfold rightF
 rw [if_pos (by simp;omega),List.length_map]
 exact doc_right_in _ l false 0 (by simp) hs
def narrowerP (w : Int) (x : S109) : Bool := decide (textRun x.f4<w)&&(decide (textRun x.f5<w)&&(decide (textRun x.f6<w)&&decide (textRun x.f7<w)))
def fitsP (l : List S109) (w : Int) : Bool := decide (1≤w)&&l.all (narrowerP w)
theorem texts_to (x : S109) : texts106 (to106 x)=[x.f4,x.f5,x.f6,x.f7] := rfl
theorem runAll_four (w : Int) (x : S109) : decide (w≤runAll [x.f4,x.f5,x.f6,x.f7] 0)=(decide (w≤0) || !narrowerP w x) := by
 have h1:=(textRun_bound x.f4).1
 have h2:=(textRun_bound x.f5).1
 have h3:=(textRun_bound x.f6).1
 have h4:=(textRun_bound x.f7).1
 have e:runAll [x.f4,x.f5,x.f6,x.f7] 0=mx (mx (mx (mx 0 (textRun x.f4)) (textRun x.f5)) (textRun x.f6)) (textRun x.f7):=rfl
 rw [e]
 unfold narrowerP
 have a1:=mx_cases 0 (textRun x.f4)
 have a2:=mx_cases (mx 0 (textRun x.f4)) (textRun x.f5)
 have a3:=mx_cases (mx (mx 0 (textRun x.f4)) (textRun x.f5)) (textRun x.f6)
 have a4:=mx_cases (mx (mx (mx 0 (textRun x.f4)) (textRun x.f5)) (textRun x.f6)) (textRun x.f7)
 rw [Bool.eq_iff_iff]
 simp only [decide_eq_true_eq,Bool.or_eq_true,Bool.not_eq_true',Bool.and_eq_false_iff,decide_eq_false_iff_not]
 omega
theorem fits_rounds (w : Int) : ∀ (l : List S109),(∀ x∈l,sizesP x≤1000000000)→∃ K,∀ k,K≤k→fitsOk k (l.map to106)=true∧(l.map to106).any (wide k w)=l.any (fun x=>decide (w≤runAll [x.f4,x.f5,x.f6,x.f7] 0))
 | [],_=>⟨0,fun k _=>⟨rfl,rfl⟩⟩
 | x::l,hs=>by
  obtain⟨K,hK⟩:=fits_rounds w l (fun y hy=>hs y (by simp [hy]))
  have hx:=sizes_le (hs x (by simp))
  obtain⟨L,hL⟩:=ev_doc_run [x.f4,x.f5,x.f6,x.f7] (by simp) (by intro s hm;simp at hm;rcases hm with rfl|rfl|rfl|rfl<;>omega)
  refine⟨max K L,fun k hk=>?_⟩
  obtain⟨h1,h2⟩:=hK k (by omega)
  have h3:doc_run.f k [x.f4,x.f5,x.f6,x.f7]=some (runAll [x.f4,x.f5,x.f6,x.f7] 0):=hL k (by omega)
  simp only [List.map_cons,List.any_cons]
  refine⟨?_,?_⟩
  ·unfold fitsOk at h1 ⊢
   rw [List.all_cons,h1,texts_to,h3];rfl
  ·rw [h2]
   unfold wide widest
   rw [texts_to,h3];rfl
theorem any_all (w : Int) (h1 : 1≤w) : ∀ l : List S109,(!l.any (fun x=>decide (w≤runAll [x.f4,x.f5,x.f6,x.f7] 0)))=l.all (narrowerP w)
 | []=>rfl
 | x::l=>by
  rw [List.any_cons,List.all_cons,Bool.not_or,any_all w h1 l,runAll_four]
  rw [decide_eq_false (show ¬ w≤0 by omega)]
  simp
theorem ev_doc_fits (l : List S109) (w : Int) (hs : ∀ x∈l,sizesP x≤1000000000) : Ev (fun k=>doc_Doc_Fits.f k (l.map to106) w) (fitsP l w) := by
 obtain⟨K,hK⟩:=fits_rounds w l hs
 refine⟨K,fun k hk=>?_⟩
 obtain⟨h1,h2⟩:=hK k hk
 show fitsF k (l.map to106) w=_
 unfold fitsF fitsP
 by_cases hw:1≤w
 ·rw [if_pos hw,if_pos h1,h2,any_all w hw,decide_eq_true hw,Bool.true_and]
 ·rw [if_neg hw,decide_eq_false hw,Bool.false_and]
def printP (l : List S109) (w : Int) : ByteArray×Int :=
 if 1≤w∧w≤1073741824 then (if rightP false l=true then (if fitsP l w=true then (toB (printL w (l.map to106)),0) else (⟨#[]⟩,4)) else (⟨#[]⟩,11)) else (⟨#[]⟩,4)
theorem printP_in {l : List S109} {w : Int} (h1 : 1≤w) (h2 : w≤1073741824) : printP l w=(if rightP false l=true then (if fitsP l w=true then (toB (printL w (l.map to106)),0) else (⟨#[]⟩,4)) else (⟨#[]⟩,11)) := if_pos ⟨h1,h2⟩
theorem printP_out {l : List S109} {w : Int} (h : ¬ (1≤w∧w≤1073741824)) : printP l w=(⟨#[]⟩,4) := if_neg h
theorem okPart_to (x : S109) (h : sizesP x≤1000000000) : okPart (to106 x)=true := by
 have hx:=sizes_le h
 unfold okPart
 have e1:(to106 x).f3=x.f5:=rfl
 have e2:(to106 x).f4=x.f6:=rfl
 have e3:(to106 x).f5=x.f7:=rfl
 rw [e1,e2,e3,sufx x.f5 (by omega),sufx x.f6 (by omega),sufx x.f7 (by omega)]
 simp only [Bool.and_eq_true,decide_eq_true_eq]
 exact⟨by show x.f0.size≤_;omega,by show x.f1.size≤_;omega,by show x.f2.size≤_;omega,by show x.f4.size≤_;omega,by omega,by omega,by omega,rfl,rfl,rfl⟩
theorem ev_mark_print (l : List S109) (w : Int) (hn : l.length≤2000) (hs : ∀ x∈l,sizesP x≤1000000000) : Ev (fun k=>mark_Print.f k (l.map to106) w) (printP l w) := by
 show Ev (fun k=>printF k (l.map to106) w) (printP l w)
 unfold printF mark_wide.f
 by_cases h1:w≥1
 ·rw [if_pos h1]
  by_cases h2:w≤1073741824
  ·rw [decide_eq_true h2,printP_in h1 h2]
   refine Ev.bind (Ev.const rfl) (Ev.pos rfl (Ev.bind (ev_doc_right l (by omega) hs) ?_))
   have hok:(l.map to106).all okPart=true:=by
    refine List.all_eq_true.2 (fun y hy=>?_)
    obtain⟨x,hx,rfl⟩:=List.mem_map.1 hy
    exact okPart_to x (hs x hx)
   by_cases h3:rightP false l=true
   ·refine Ev.cast (Ev.pos h3 (Ev.bind (ev_doc_fits l w hs) ?_)) (if_pos h3).symm
    by_cases h4:fitsP l w=true
    ·exact Ev.cast (Ev.pos h4 (Ev.pos ⟨hok,by rw [List.length_map];exact hn,by omega,h2⟩ (Ev.val rfl))) (if_pos h4).symm
    ·exact Ev.cast (Ev.neg h4 (Ev.val rfl)) (if_neg h4).symm
   ·exact Ev.cast (Ev.neg h3 (Ev.val rfl)) (if_neg h3).symm
  ·rw [decide_eq_false h2,printP_out (fun h=>h2 h.2)]
   exact Ev.bind (Ev.const rfl) (Ev.neg (by simp) (Ev.val rfl))
 ·rw [if_neg h1,printP_out (fun h=>h1 h.1)]
  exact Ev.bind (Ev.const rfl) (Ev.neg (by simp) (Ev.val rfl))
end Go.Proofs.Ytfiamddinkokbaa.F
end
