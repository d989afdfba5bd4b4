/- Texts joined into one file (wip/tools/pack.py): ApartHow, PrintLe, PureGen, ApartWalk, OpenHow, OpenInts -/
import Derived.Test.YtfiamddinkokbaaTA43
import Derived.Test.YtfiamddinkokbaaTA36
import Derived.Test.YtfiamddinkokbaaTA40
import Derived.Test.YtfiamddinkokbaaTA42
import Derived.Test.YtfiamddinkokbaaTA37
import Derived.Laws.IdiomArrays
import Derived.OpenShut
import Derived.ChangeSlices
set_option linter.unusedVariables false
set_option linter.unusedSimpArgs false
section
namespace Go.Proofs.Ytfiamddinkokbaa.F
open Go.RowKit Go.Shelf Go.Proofs.YtfiamddinkokbaaW.PrintWords
def numQ (i : Nat) : ByteArray := if i<10 then ⟨#[UInt8.ofNat (48+i)]⟩ else ⟨#[UInt8.ofNat (48+i / 10),UInt8.ofNat (48+i % 10)]⟩
def lineQ (i : Nat) : ByteArray := (⟨#[108,105,110,101,32]⟩ : ByteArray)++numQ i++(⟨#[10]⟩ : ByteArray)
def otherQ (i : Nat) : ByteArray := (⟨#[111,116,104,101,114,32]⟩ : ByteArray)++numQ i++(⟨#[10]⟩ : ByteArray)
theorem num_all : (List.range 40).all (fun i=>match tripartiteref01_Num.f 5 (i : Int) with|some s=>s.data.toList==(numQ i).data.toList|none=>false)=true := by decide +kernel
theorem num_f (i : Nat) (h : i<40) : tripartiteref01_Num.f 5 (i : Int)=some (numQ i) := by
 have:=List.all_eq_true.1 num_all i (List.mem_range.2 h)
 cases hf:tripartiteref01_Num.f 5 (i:Int) with
 | none=>rw [hf] at this;cases this
 | some s =>
  rw [hf] at this
  exact congrArg some (bytes_ext (beq_iff_eq.1 this))
def nowQ (k : Nat) : Nat := if k=1∨k=2 then 1 else if k=3∨k=4 then 2 else 0
def turnQ (who k : Nat) : Nat×Nat := if who+nowQ k=3 then (0,0) else (nowQ k,k)
def rowsOf : Nat→Nat→List Nat→List QRow
 | _,_,[]=>[]
 | i,who,k::t=>if i<40 then ⟨lineQ i,(turnQ who k).1,if (turnQ who k).2=1∨(turnQ who k).2=3 then [otherQ i] else []⟩::rowsOf (i+1) (turnQ who k).1 t else []
theorem now_le (k : Nat) : nowQ k≤2 := by unfold nowQ;split;omega;split<;>omega
theorem turn_ok (who k : Nat) : (turnQ who k).1≤2∧who+(turnQ who k).1≠3∨who≥3∧(turnQ who k).1≤2 := by
 have:=now_le k
 unfold turnQ
 split<;>simp only<;>omega
theorem rows_apart : ∀ (l : List Nat) (i who : Nat),who≤2→Apart (rowsOf i who l)∧∀ q,(rowsOf i who l)[0]? = some q→who+q.k≠3
 | [],i,who,h=>⟨⟨fun q hq=>(by cases hq),fun j q q' h1=>(by simp [rowsOf] at h1)⟩,fun q hq=>(by simp [rowsOf] at hq)⟩
 | k::t,i,who,h=>by
  rw [rowsOf]
  split
  ·have ht:=turn_ok who k
   have ht2:(turnQ who k).1≤2:=by omega
   obtain⟨⟨a1,a2⟩,a3⟩:=rows_apart t (i+1) (turnQ who k).1 ht2
   refine⟨⟨fun q hq=>?_,fun j q q' h1 h2=>?_⟩,fun q hq=>?_⟩
   ·rcases List.mem_cons.1 hq with rfl|hq
    ·exact ht2
    ·exact a1 q hq
   ·rw [List.getElem?_cons_succ] at h2
    cases j with
    | zero =>
     rw [List.getElem?_cons_zero] at h1
     obtain rfl:=Option.some.inj h1
     exact a3 q' h2
    | succ j=>rw [List.getElem?_cons_succ] at h1;exact a2 j q q' h1 h2
   ·rw [List.getElem?_cons_zero] at hq
    obtain rfl:=Option.some.inj hq
    show who+(turnQ who k).1≠3
    omega
  ·exact⟨⟨fun q hq=>(by cases hq),fun j q q' h1=>(by simp at h1)⟩,fun q hq=>(by simp at hq)⟩
theorem line_nodup : ((List.range 40).map lineQ).Nodup := by
 have h:((List.range 40).map (fun i=>(lineQ i).data.toList)).Nodup:=by decide +kernel
 have e:(List.range 40).map (fun i=>(lineQ i).data.toList)=((List.range 40).map lineQ).map (fun s=>s.data.toList):=by rw [List.map_map];rfl
 rw [e] at h
 exact List.Pairwise.imp (fun hne e=>hne (by rw [e])) (List.pairwise_map.1 h)
theorem rows_lines : ∀ (l : List Nat) (i who : Nat),i≤40→∃ m,i+m≤40∧(rowsOf i who l).map (·.s)=(List.range' i m).map lineQ
 | [],i,who,h=>⟨0,h,rfl⟩
 | k::t,i,who,h=>by
  rw [rowsOf]
  split
  ·obtain⟨m,h1,h2⟩:=rows_lines t (i+1) (turnQ who k).1 (by omega)
   exact⟨m+1,by omega,by rw [List.map_cons,h2,List.range'_succ,List.map_cons]⟩
  ·exact⟨0,h,rfl⟩
theorem rows_nodup (l : List Nat) (who : Nat) : ((rowsOf 0 who l).map (·.s)).Nodup := by
 obtain⟨m,h1,h2⟩:=rows_lines l 0 who (by omega)
 rw [h2]
 refine List.Nodup.sublist ?_ line_nodup
 rw [List.range_eq_range']
 refine List.Sublist.map _ ?_
 have e:List.range' 0 40=List.range' 0 m++List.range' m (40-m):=by
  have:=List.range'_append_1 (s:=0) (m:=m) (n:=40-m)
  rw [Nat.zero_add,show m+(40-m)=40 by omega] at this
  exact this.symm
 rw [e]
 exact List.sublist_append_left _ _
theorem rows_mem : ∀ (l : List Nat) (i who : Nat),∀ q∈rowsOf i who l,∃ j,j<40∧q.s=lineQ j∧(q.o=[]∨q.o=[otherQ j])
 | [],i,who,q,h=>by cases h
 | k::t,i,who,q,h=>by
  rw [rowsOf] at h
  split at h
  ·rename_i hi
   rcases List.mem_cons.1 h with rfl|h
   ·refine⟨i,hi,rfl,?_⟩
    simp only
    split
    ·exact .inr rfl
    ·exact .inl rfl
   ·exact rows_mem t (i+1) _ q h
  ·cases h
theorem head_line (i : Nat) : (lineQ i).data.toList.head? = some 108 := by unfold lineQ;simp [ByteArray.data_append]
theorem head_other (i : Nat) : (otherQ i).data.toList.head? = some 111 := by unfold otherQ;simp [ByteArray.data_append]
theorem rows_other (l : List Nat) (who : Nat) : ∀ q∈rowsOf 0 who l,∀ t∈q.o,t∉(rowsOf 0 who l).map (·.s) := by
 intro q hq t ht hm
 obtain⟨q',hq',e⟩:=List.mem_map.1 hm
 obtain⟨j,_,_,ho⟩:=rows_mem l 0 who q hq
 obtain⟨j',_,e',_⟩:=rows_mem l 0 who q' hq'
 rcases ho with ho|ho
 ·rw [ho] at ht;cases ht
 ·rw [ho] at ht
  rw [List.mem_singleton.1 ht] at e
  have h1:=head_line j'
  rw [←e',e,head_other] at h1
  cases h1
def GoodQ (s : ByteArray) : Prop := oneL s.data.toList=true∧endsL s.data.toList=true∧runI s≤6∧s.size≤20
theorem good_line (j : Nat) (h : j<40) : GoodQ (lineQ j) := by
 have key:(List.range 40).all (fun i=>oneL (lineQ i).data.toList&&endsL (lineQ i).data.toList&&decide (runI (lineQ i)≤6)&&decide ((lineQ i).data.toList.length≤20))=true:=by decide +kernel
 have:=List.all_eq_true.1 key j (List.mem_range.2 h)
 simp only [Bool.and_eq_true,decide_eq_true_eq] at this
 exact⟨this.1.1.1,this.1.1.2,this.1.2,by rw [←size_data];exact this.2⟩
theorem good_other (j : Nat) (h : j<40) : GoodQ (otherQ j) := by
 have key:(List.range 40).all (fun i=>oneL (otherQ i).data.toList&&endsL (otherQ i).data.toList&&decide (runI (otherQ i)≤6)&&decide ((otherQ i).data.toList.length≤20))=true:=by decide +kernel
 have:=List.all_eq_true.1 key j (List.mem_range.2 h)
 simp only [Bool.and_eq_true,decide_eq_true_eq] at this
 exact⟨this.1.1.1,this.1.1.2,this.1.2,by rw [←size_data];exact this.2⟩
theorem whole_good : ∀ l : List ByteArray,(∀ s∈l,GoodQ s)→wholeP l=true
 | [],_=>rfl
 | x::r,h=>by
  have hx:=h x (List.mem_cons_self ..)
  rw [wholeP_cons,hx.1,hx.2.1,whole_good r (fun s hs=>h s (List.mem_cons_of_mem _ hs))];simp
theorem size_good : ∀ l : List ByteArray,(∀ s∈l,GoodQ s)→(catB l).size≤20*l.length
 | [],_=>by rw [catB_nil];exact Nat.zero_le _
 | x::r,h=>by
  have hx:=(h x (List.mem_cons_self ..)).2.2.2
  have hr:=size_good r (fun s hs=>h s (List.mem_cons_of_mem _ hs))
  have e:catB (x::r)=catB [x]++catB r:=catB_append [x] r
  have e1:(catB [x]).size=x.size:=by rw [←size_data,←size_data];unfold catB;rw [data_toB];simp
  rw [e,ByteArray.size_append,e1,List.length_cons];omega
theorem rows_good (l : List Nat) (who : Nat) : (∀ s∈(rowsOf 0 who l).map (·.s),GoodQ s)∧(∀ d,∀ s∈(rowsOf 0 who l).flatMap (sideQ d),GoodQ s)∧∀ s∈(rowsOf 0 who l).flatMap wantQ,GoodQ s := by
 have one:∀ q∈rowsOf 0 who l,GoodQ q.s∧∀ t∈q.o,GoodQ t:=by
  intro q hq
  obtain⟨j,hj,e,ho⟩:=rows_mem l 0 who q hq
  refine⟨by rw [e];exact good_line j hj,fun t ht=>?_⟩
  rcases ho with ho|ho
  ·rw [ho] at ht;cases ht
  ·rw [ho] at ht;rw [List.mem_singleton.1 ht];exact good_other j hj
 refine⟨fun s hs=>?_,fun d s hs=>?_,fun s hs=>?_⟩
 ·obtain⟨q,hq,rfl⟩:=List.mem_map.1 hs;exact (one q hq).1
 ·obtain⟨q,hq,h⟩:=List.mem_flatMap.1 hs
  unfold sideQ at h
  split at h
  ·exact (one q hq).2 s h
  ·rw [List.mem_singleton.1 h];exact (one q hq).1
 ·obtain⟨q,hq,h⟩:=List.mem_flatMap.1 hs
  unfold wantQ at h
  split at h
  ·rw [List.mem_singleton.1 h];exact (one q hq).1
  ·exact (one q hq).2 s h
theorem rows_length : ∀ (l : List Nat) (i who : Nat),i≤40→i+(rowsOf i who l).length≤40
 | [],i,who,h=>h
 | k::t,i,who,h=>by
  rw [rowsOf]
  split
  ·have:=rows_length t (i+1) (turnQ who k).1 (by omega)
   rw [List.length_cons];omega
  ·exact h
theorem flat_short {f : QRow→List ByteArray} : ∀ rows : List QRow,(∀ q∈rows,(f q).length≤1)→(rows.flatMap f).length≤rows.length
 | [],_=>Nat.le_refl _
 | q::r,h=>by
  have h1:=h q (List.mem_cons_self ..)
  have h2:=flat_short r (fun x hx=>h x (List.mem_cons_of_mem _ hx))
  rw [List.flatMap_cons,List.length_append,List.length_cons];omega
theorem ev_how (l : List Nat) {g0 g1 g2 : ByteArray} {st wd fv : Int} (ok : Okay g0 g1 g2 st wd fv) :
  ∃ d lp rp cs W,cs.length≤20000001∧Ev (fun k=>textsF k (catB ((rowsOf 0 0 l).map (·.s))) (catB ((rowsOf 0 0 l).flatMap (sideQ 1))) (catB ((rowsOf 0 0 l).flatMap (sideQ 2))) g0 g1 g2 st wd fv) (d,lp,rp,cs,catB ((rowsOf 0 0 l).flatMap wantQ),W,0,0):=by
 obtain⟨r1,r2,r3⟩:=rows_good l 0
 have hl:=rows_length l 0 0 (by omega)
 have ol:∀ q∈rowsOf 0 0 l,q.o.length≤1:=fun q hq=>by
  obtain⟨j,hj,e,ho⟩:=rows_mem l 0 0 q hq
  rcases ho with ho|ho<;>rw [ho]<;>simp
 have f1:∀ d,((rowsOf 0 0 l).flatMap (sideQ d)).length≤(rowsOf 0 0 l).length:=fun d=>flat_short _ (fun q hq=>by unfold sideQ;split;exact ol q hq;simp)
 have f2:((rowsOf 0 0 l).flatMap wantQ).length≤(rowsOf 0 0 l).length:=flat_short _ (fun q hq=>by unfold wantQ;split;simp;exact ol q hq)
 have z1:=size_good _ r1
 have z2:=size_good _ (r2 1)
 have z3:=size_good _ (r2 2)
 have z4:=size_good _ r3
 have y1:=f1 1
 have y2:=f1 2
 rw [List.length_map] at z1
 obtain⟨d,lp,rp,cs,hc,h⟩:=ev_apart ok (rows_apart l 0 0 (by omega)).1 (rows_nodup l 0) (rows_other l 0) (whole_good _ r1) (whole_good _ (r2 1)) (whole_good _ (r2 2)) (whole_good _ r3) (fun s hs=>(r3 s hs).2.2.1) (by omega) (by omega) (by omega) (by omega)
 exact⟨d,lp,rp,cs,_,hc,h⟩

theorem ev_options2 (st wd fv : Int) (a b c : ByteArray) (hs : a.size+b.size+c.size≤500) : ∃ (g0 g1 g2 : ByteArray) (st' wd' : Int),Okay g0 g1 g2 st' wd' 0∧g0.size+g1.size+g2.size≤500∧Ev (fun k=>tripartitelaw12_Options.f k st wd fv a b c) (g0,g1,g2,st',wd',0) := by
 obtain⟨g0,s0,l0,e0⟩:=ev_bare a (by omega)
 obtain⟨g1,s1,l1,e1⟩:=ev_bare b (by omega)
 obtain⟨g2,s2,l2,e2⟩:=ev_bare c (by omega)
 have u1:=u64_nonneg st
 have u2:=u64_nonneg wd
 have t1:0≤Int.tmod (IntKind.u64.wrap st) 3∧Int.tmod (IntKind.u64.wrap st) 3<3:=by rw [Int.tmod_eq_emod_of_nonneg u1];omega
 have t2:0≤Int.tmod (IntKind.u64.wrap wd) 58∧Int.tmod (IntKind.u64.wrap wd) 58<58:=by rw [Int.tmod_eq_emod_of_nonneg u2];omega
 have w1:wrap64 (Int.tmod (IntKind.u64.wrap st) 3)=Int.tmod (IntKind.u64.wrap st) 3:=wrap_in (by omega) (by omega)
 have w2:wrap64 (Int.tmod (IntKind.u64.wrap wd) 58)=Int.tmod (IntKind.u64.wrap wd) 58:=wrap_in (by omega) (by omega)
 have w3:wrap64 (7+Int.tmod (IntKind.u64.wrap wd) 58)=7+Int.tmod (IntKind.u64.wrap wd) 58:=wrap_in (by omega) (by omega)
 refine⟨g0,g1,g2,Int.tmod (IntKind.u64.wrap st) 3,7+Int.tmod (IntKind.u64.wrap wd) 58,⟨⟨l0,l1,l2⟩,by omega,by omega,by omega,.inl rfl⟩,by omega,?_⟩
 unfold tripartitelaw12_Options.f
 refine Ev.bind (a:=(a,b,c,false,⟨#[]⟩,⟨#[]⟩,⟨#[]⟩,⟨#[]⟩,false)) (Ev.const ?_) (Ev.bind e0 (Ev.bind e1 (Ev.bind e2 (Ev.val ?_))))
 ·rfl
 ·rw [w1,w2,w3]
def ksQ (l0 : List Int) : List Nat := l0.map (fun h=>(Int.tmod (IntKind.u64.wrap h) 7).toNat)
theorem ks_turn (v : Int) : ∃ kk : Nat,kk<7∧(Int.tmod (IntKind.u64.wrap v) 7).toNat=kk∧wrap64 (Int.tmod (IntKind.u64.wrap v) 7)=(kk : Int) := by
 have hx:0≤IntKind.u64.wrap v:=by show 0≤v % 18446744073709551616;omega
 generalize IntKind.u64.wrap v=y at hx
 have e:Int.tmod y 7=y % 7:=Int.tmod_eq_emod_of_nonneg hx
 rw [e]
 refine⟨(y % 7).toNat,by omega,rfl,?_⟩
 rw [wrap_in (by omega) (by omega)];omega
theorem ks_drop {l0 : List Int} {i : Nat} (h : i<l0.length) : (ksQ l0).drop i=(Int.tmod (IntKind.u64.wrap (rd l0 (i : Int))) 7).toNat::(ksQ l0).drop (i+1) := by
 have hl:i<(ksQ l0).length:=by unfold ksQ;rw [List.length_map];exact h
 rw [List.drop_eq_getElem_cons hl]
 congr 1
 simp [ksQ,rd,h]
theorem apart_row {l0 : List Int} {i : Nat} {who : Int} {done : List QRow} {kk : Nat} (h : i<l0.length) (h40 : i<40) (hw0 : 0≤who) (hw2 : who≤2) (hk : (Int.tmod (IntKind.u64.wrap (rd l0 (i : Int))) 7).toNat=kk) (HR : rowsOf 0 0 (ksQ l0)=done++rowsOf i who.toNat ((ksQ l0).drop i)) :
  rowsOf 0 0 (ksQ l0)=(done++[⟨lineQ i,(turnQ who.toNat kk).1,if (turnQ who.toNat kk).2=1∨(turnQ who.toNat kk).2=3 then [otherQ i] else []⟩])++rowsOf (i+1) (turnQ who.toNat kk).1 ((ksQ l0).drop (i+1)):=by
 rw [HR,ks_drop h,hk,rowsOf,if_pos h40,List.append_assoc];rfl
theorem numQ_size (i : Nat) : (numQ i).size≤2 := by unfold numQ;split;exact Nat.le_succ 1;exact Nat.le_refl 2
theorem cat_one (s : ByteArray) : catB [s]=s := bytes_ext (by unfold catB;simp [data_toB])
theorem app_none (s : ByteArray) : s++catB []=s := bytes_ext (by unfold catB;rw [ByteArray.data_append,Array.toList_append];simp [data_toB])
theorem row_map (done : List QRow) (q : QRow) : catB ((done++[q]).map (·.s))=catB (done.map (·.s))++q.s := by rw [List.map_append,catB_append,List.map_cons,List.map_nil,cat_one]
theorem row_flat (done : List QRow) (q : QRow) (f : QRow→List ByteArray) : catB ((done++[q]).flatMap f)=catB (done.flatMap f)++catB (f q) := by rw [List.flatMap_append,catB_append,List.flatMap_cons,List.flatMap_nil,List.append_nil]
theorem flat_one : ∀ (l : List QRow) (f : QRow→List ByteArray),(∀ q∈l,(f q).length≤1)→(l.flatMap f).length≤l.length
 | [],f,_=>by simp
 | q::r,f,hf=>by
  rw [List.flatMap_cons,List.length_append,List.length_cons]
  have h1:=hf q (List.mem_cons_self ..)
  have h2:=flat_one r f (fun x hx=>hf x (List.mem_cons_of_mem _ hx))
  omega
theorem apart_sizes {l : List Nat} {done rest : List QRow} (h : rowsOf 0 0 l=done++rest) : (catB (done.map (·.s))).size≤20*done.length∧(catB (done.flatMap (sideQ 1))).size≤20*done.length∧(catB (done.flatMap (sideQ 2))).size≤20*done.length∧(catB (done.flatMap wantQ)).size≤20*done.length := by
 obtain⟨q1,q2,q3⟩:=rows_good l 0
 rw [h] at q1 q2 q3
 have s1:=size_good (done.map (·.s)) (fun s hs=>q1 s (by rw [List.map_append];exact List.mem_append_left _ hs))
 have s2:=fun d=>size_good (done.flatMap (sideQ d)) (fun s hs=>q2 d s (by rw [List.flatMap_append];exact List.mem_append_left _ hs))
 have s3:=size_good (done.flatMap wantQ) (fun s hs=>q3 s (by rw [List.flatMap_append];exact List.mem_append_left _ hs))
 have l1:∀ (f:QRow→List ByteArray),(∀ q∈done,(f q).length≤1)→(done.flatMap f).length≤done.length:=fun f=>flat_one done f
 have m:∀ q∈done,(sideQ 1 q).length≤1∧(sideQ 2 q).length≤1∧(wantQ q).length≤1:=by
  intro q hq
  obtain⟨j,_,_,ho⟩:=rows_mem l 0 0 q (by rw [h];exact List.mem_append_left _ hq)
  unfold sideQ wantQ
  rcases ho with ho|ho<;>rw [ho]<;>refine⟨?_,?_,?_⟩<;>(try split)<;>simp
 have a1:=l1 (sideQ 1) (fun q hq=>(m q hq).1)
 have a2:=l1 (sideQ 2) (fun q hq=>(m q hq).2.1)
 have a3:=l1 wantQ (fun q hq=>(m q hq).2.2)
 have b1:=s2 1
 have b2:=s2 2
 rw [List.length_map] at s1
 omega
set_option maxHeartbeats 8000000 in
set_option maxRecDepth 100000 in
theorem apart_no {A0 : Option Addr} {c0 : Nat} {l0 : List Int} {g0 g1 g2 : ByteArray} {st wd fv : Int} {w : World} (hr0 : Kd.C (Kd.int .i64) w A0 l0.length l0) (hc0 : l0.length≤c0) (s0 : g0.size≤140737488351232) (s1 : g1.size≤140737488351232) (s2 : g2.size≤140737488351232) (hf : ¬ g0.size+g1.size+g2.size≤500) :
  Calls Try.prog 14 #[.slice A0 l0.length c0,.agg #[.int .i64 st,.int .i64 wd,.int .i64 fv,.string g0,.string g1,.string g2]] w fun e w'=>e = .returned (.bool true)∧Below w.heap.size w w':=by
 have HF:=Aside0.mk (fun W=>fits_bool (st:=st) (wd:=wd) (fv:=fv) s0 s1 s2 W)
 rw [decide_eq_false hf] at HF
 have HC0:=Aside0.mk hr0
 have HT:=Aside0.mk (fun W=>alive_calls W)
 clear s0 s1 s2 hf hr0 hc0
 go_enter Try.func14,Try.ntmps14
 go_wp2_with (first
  | (go_at_call 55;(with_reducible refine (HF.out _).mono ?_);rintro e w1 ⟨rfl,hb⟩;have HB:=Aside0.mk (below_step (below_alloc (Below.refl _ _) _) hb);have HX5:=Aside0.mk (after_alloc hb);have HC1:=Aside0.mk (Kd.C_below (Kd.C_alloc HC0.out _) hb);clear hb)
  | (go_at_call 56;(with_reducible refine (HT.out _).mono ?_);rintro e w2 ⟨rfl,hb⟩;have HB2:=Aside0.mk (below_step HB.out hb);clear hb))
 go_ret
 exact⟨rfl,HB2.out⟩
set_option maxHeartbeats 16000000 in
set_option maxRecDepth 100000 in
theorem apart_yes {A0 : Option Addr} {c0 : Nat} {l0 : List Int} {g0 g1 g2 : ByteArray} {st wd fv : Int} {w : World} (hr0 : Kd.C (Kd.int .i64) w A0 l0.length l0) (hc0 : l0.length≤c0) (s0 : g0.size≤140737488351232) (s1 : g1.size≤140737488351232) (s2 : g2.size≤140737488351232) (hf : g0.size+g1.size+g2.size≤500) :
  Calls Try.prog 14 #[.slice A0 l0.length c0,.agg #[.int .i64 st,.int .i64 wd,.int .i64 fv,.string g0,.string g1,.string g2]] w fun e w'=>e = .returned (.bool true)∧Below w.heap.size w w':=by
 have HF:=Aside0.mk (fun W=>fits_bool (st:=st) (wd:=wd) (fv:=fv) s0 s1 s2 W)
 rw [decide_eq_true hf] at HF
 have HC0:=Aside0.mk hr0
 have HT:=Aside0.mk (fun W=>alive_calls W)
 obtain⟨o0,o1,o2,st',wd',ho,hg,he⟩:=ev_options2 st wd fv g0 g1 g2 hf
 obtain⟨ko,hk⟩:=he.get
 have HO:=Aside0.mk (fun W=>tripartitelaw12_Options.calls ko st wd fv g0 g1 g2 o0 o1 o2 st' wd' 0 W hk)
 obtain⟨d1,lp1,rp1,cs1,W1,_,e1⟩:=ev_how (ksQ l0) ho
 obtain⟨k1,h1⟩:=e1.get
 have H1:=Aside0.mk (fun W=>texts_toldN h1 rfl W)
 clear s0 s1 s2 hf ho hg he hk h1 e1 hr0 hc0
 go_enter Try.func14,Try.ntmps14
 go_wp2_with (first
  | (go_at_call 55;(with_reducible refine (HF.out _).mono ?_);rintro e w1 ⟨rfl,hb⟩;have HB:=Aside0.mk (below_step (below_alloc (Below.refl _ _) _) hb);have HX5:=Aside0.mk (after_alloc hb);have HC1:=Aside0.mk (Kd.C_below (Kd.C_alloc HC0.out _) hb);clear hb))
 clear HF
 go_loopg [5,6,7,8,9,10] l0.length (fun gg s5_ s6_ s7_ s8_ s9_ s10_ wr=>∃ (i:Nat) (who:Int) (done:List QRow),i≤l0.length∧l0.length-i≤gg∧0≤who∧who≤2∧i≤40∧done.length≤i∧s5_ = .string (catB (done.map (·.s)))∧s6_ = .string (catB (done.flatMap (sideQ 1)))∧s7_ = .string (catB (done.flatMap (sideQ 2)))∧s8_ = .string (catB (done.flatMap wantQ))∧s9_ = .int .i64 who∧s10_ = .int .i64 i∧Aside0 (rowsOf 0 0 (ksQ l0)=done++rowsOf i who.toNat ((ksQ l0).drop i))∧Aside0 (Below w1.heap.size w1 wr))
 case atStart=>exact⟨0,0,[],Nat.zero_le _,by omega,by omega,by omega,by omega,by simp,rfl,rfl,rfl,rfl,rfl,rfl,⟨by simp⟩,⟨Below.refl _ _⟩⟩
 case round =>
  obtain⟨i,who,done,hi,hg,hw0,hw2,h40,hdl,rfl,rfl,rfl,rfl,rfl,rfl,HR,HW⟩:=hrel
  by_cases hlt:i<l0.length∧i<40
  ·obtain⟨hi1,hi2⟩:=hlt
   have z0:(0:Int)≤(i:Int):=by omega
   have z1:(i:Int)<(l0.length:Int):=by omega
   have z2:(i:Int)<40:=by omega
   obtain⟨ax,rfl,cx⟩:=Kd.at_int (Kd.C_below HC1.out HW.out) (i:Int) z0 z1
   rw [Int.toNat_natCast] at cx
   obtain⟨kk,hk7,hkk⟩:=ks_turn (rd l0 (i:Int))
   obtain⟨tw,htw⟩:∃ tw:Nat,tw=(turnQ who.toNat kk).1:=⟨_,rfl⟩
   obtain⟨ol,hol⟩:∃ ol:List ByteArray,ol=if (turnQ who.toNat kk).2=1∨(turnQ who.toNat kk).2=3 then [otherQ i] else []:=⟨_,rfl⟩
   have hrow:=apart_row (done:=done) (l0:=l0) hi1 hi2 hw0 hw2 hkk.1 HR.out
   rw [←htw,←hol] at hrow
   have HRow:=Aside0.mk hrow
   have HTW:=Aside0.mk htw
   have HOL:=Aside0.mk hol
   have hks:=hkk.2
   generalize rd l0 (i:Int)=v at cx hks
   have HN:=Aside0.mk (fun W=>tripartiteref01_Num.calls 5 (i:Int) (numQ i) W (num_f i hi2))
   obtain⟨y1,y2,y3,y4⟩:=apart_sizes HR.out
   have hnum:=numQ_size i
   have htk:tw≤2:=by
    rw [htw]
    have:=now_le kk
    unfold turnQ;split
    ·exact Nat.zero_le _
    ·exact this
   clear HR hkk hrow htw hol
   have tkn:True:=trivial
   obtain rfl|rfl|rfl:who=0∨who=1∨who=2:=by omega
   all_goals obtain rfl|rfl|rfl|rfl|rfl|rfl|rfl:kk=0∨kk=1∨kk=2∨kk=3∨kk=4∨kk=5∨kk=6:=by omega
   all_goals go_wp2_with (first
    | (go_at_call 66;have _t:=tkn;(with_reducible refine (HN.out _).mono ?_);rintro e wn ⟨rfl,hb⟩;clear tkn;have HW2:=Aside0.mk (below_step (below_alloc HW.out _) hb);clear hb)
    | (go_at_call 66;(with_reducible refine (HN.out _).mono ?_);rintro e wm ⟨rfl,hb⟩;have HW3:=Aside0.mk (below_step HW2.out hb);clear hb))
   all_goals go_roundg (l0.length-(i+1))
   all_goals first|omega|skip
   all_goals
    have htw:=HTW.out
    have hol:=HOL.out
    simp [turnQ,nowQ] at htw hol
    subst htw hol
    refine⟨i+1,_,done++[_],by omega,Nat.le_refl _,?_,?_,by omega,?_,?_,?_,?_,?_,rfl,?_,HRow,?_⟩
    all_goals first
     | (first|exact HW3|exact HW2)
     | (rw [List.length_append];simp;omega)
     | decide
     | (go_num;done)
     | (rw [row_map];rfl)
     | (rw [row_flat];rfl)
     | (rw [row_flat];exact congrArg (fun z=>Value.string (_++z)) (cat_one _).symm)
     | (rw [row_flat];exact congrArg Value.string (app_none _).symm)
  ·have hrows:rowsOf 0 0 (ksQ l0)=done:=by
    rw [HR.out]
    have:rowsOf i who.toNat ((ksQ l0).drop i)=[]:=by
     by_cases h1:i<l0.length
     ·have h40':¬ i<40:=fun h=>hlt ⟨h1,h⟩
      rw [ks_drop h1,rowsOf,if_neg h40']
     ·rw [List.drop_of_length_le (by unfold ksQ;rw [List.length_map];omega)];rfl
    rw [this,List.append_nil]
   rw [hrows] at H1
   have HX6:=Aside0.mk (after_call HW.out HX5.out)
   have HB1:=Aside0.mk (below_step HB.out HW.out)
   have m0:=(blk_cell HX6.out 0).trans (rfl:_=some (Value.int .i64 st))
   have m1:=(blk_cell HX6.out 1).trans (rfl:_=some (Value.int .i64 wd))
   have m2:=(blk_cell HX6.out 2).trans (rfl:_=some (Value.int .i64 fv))
   have m3:=(blk_cell HX6.out 3).trans (rfl:_=some (Value.string g0))
   have m4:=(blk_cell HX6.out 4).trans (rfl:_=some (Value.string g1))
   have m5:=(blk_cell HX6.out 5).trans (rfl:_=some (Value.string g2))
   have hcond:(¬ (i:Int)<(l0.length:Int))∨((i:Int)<(l0.length:Int)∧¬ (i:Int)<40):=by
    by_cases h1:i<l0.length
    ·exact .inr ⟨by omega,fun h=>hlt ⟨h1,by omega⟩⟩
    ·exact .inl (by omega)
   clear HR hlt hrows HC0 HC1
   rcases hcond with hc|⟨hc1,hc⟩
   all_goals go_wp2_with (first
    | (go_at_call 59;(with_reducible refine (HO.out _).mono ?_);rintro e w4 ⟨rfl,hb⟩;have HB4:=Aside0.mk (below_step HB1.out hb);clear hb m0 m1 m2 m3 m4 m5)
    | (go_at_call 58;(with_reducible refine (H1.out _).mono ?_);rintro e w5 ⟨A0',A1,A2,A3,n0,c0',n1,c1,n2,c2,c3,rfl,hr,hb⟩;have HB5:=Aside0.mk (below_step HB4.out hb);clear hb hr)
    | (go_at_call 56;(with_reducible refine (HT.out _).mono ?_);rintro e w8 ⟨rfl,hb⟩;have HB8:=Aside0.mk (below_step (below_alloc HB5.out _) hb);have HR8:=Aside0.mk (after_alloc hb);have r0:=(blk_cell HR8.out 0).trans (rfl:_=some (Value.slice A0' n0 c0'));have r1:=(blk_cell HR8.out 1).trans (rfl:_=some (Value.slice A1 n1 c1));have r2:=(blk_cell HR8.out 2).trans (rfl:_=some (Value.slice A2 n2 c2));have r3:=(blk_cell HR8.out 3).trans (rfl:_=some (Value.slice A3 cs1.length c3));have r4:=(blk_cell HR8.out 4).trans (rfl:_=some (Value.string (catB (done.flatMap wantQ))));have r5:=(blk_cell HR8.out 5).trans (rfl:_=some (Value.int .i64 W1));have r6:=(blk_cell HR8.out 6).trans (rfl:_=some (Value.int .i64 0));clear hb)
    | (go_at_call 67;(with_reducible refine (clean_any A0' A1 A2 A3 n0 c0' n1 c1 n2 c2 cs1.length c3 (catB (done.flatMap wantQ)) W1 0 _).mono ?_);rintro e wx ⟨rfl,hb⟩;have HB9:=Aside0.mk (below_step HB8.out hb);have HR9:=Aside0.mk (after_call hb HR8.out);have v4:=(blk_cell HR9.out 4).trans (rfl:_=some (Value.string (catB (done.flatMap wantQ))));clear hb))
   all_goals go_ret
   all_goals exact⟨rfl,HB9.out⟩
theorem tripartiteApart_walk (A0 : Option Addr) (c0 : Nat) (l0 : List Int) (st wd fv : Int) (g0 g1 g2 : ByteArray) (s0 : g0.size≤140737488351232) (s1 : g1.size≤140737488351232) (s2 : g2.size≤140737488351232) (w : World) (hr0 : Kd.C (Kd.int .i64) w A0 l0.length l0) (hc0 : l0.length≤c0) :
  Calls Try.prog 14 #[.slice A0 l0.length c0,.agg #[.int .i64 st,.int .i64 wd,.int .i64 fv,.string g0,.string g1,.string g2]] w fun e w'=>e = .returned (.bool true)∧Below w.heap.size w w':=by
 by_cases hf:g0.size+g1.size+g2.size≤500
 ·exact apart_yes hr0 hc0 s0 s1 s2 hf
 ·exact apart_no hr0 hc0 s0 s1 s2 hf
end Go.Proofs.Ytfiamddinkokbaa.F
end

section
namespace Go.Proofs.Ytfiamddinkokbaa.F
open Go.RowKit Go.Proofs.YtfiamddinkokbaaW.PrintWords Go.ChangeShapes Go.WideShapes Go.Deep Go.Joins
section
variable {H : Type} {enc : TypeId×Value→H}
theorem back_how (W : World) (b : Nat) (sp : Nat→Bool) (hd : Bool) (st wd fv : Int) (g0 g1 g2 : ByteArray) (w0 : (Lit.int .i64 st).wf=true) (w1 : (Lit.int .i64 wd).wf=true) (w2 : (Lit.int .i64 fv).wf=true) (s0 : g0.size≤maxLen) (s1 : g1.size≤maxLen) (s2 : g2.size≤maxLen) :
  DataW.Trod enc Try.prog W b sp hd 74 (.agg #[.int .i64 st,.int .i64 wd,.int .i64 fv,.string g0,.string g1,.string g2]) (.agg [.lit (.int .i64 st),.lit (.int .i64 wd),.lit (.int .i64 fv),.lit (.string g0.data.toList),.lit (.string g1.data.toList),.lit (.string g2.data.toList)]) []:=by
 have h3:=Try.underlying3
 have h9:=Try.underlying9
 have c3:Try.prog.cellsOf 3=1:=by kernel_rfl
 have c9:Try.prog.cellsOf 9=1:=by kernel_rfl
 have c74:Try.prog.cellsOf 74=6:=by kernel_rfl
 refine⟨2,?_⟩
 simp [DataW.trod,Try.underlying74,h3,h9,c3,c9,c74,w0,w1,w2,s0,s1,s2,Value.cells]
set_option maxRecDepth 100000 in
theorem open_how {W : World} {b0 base : Nat} {r : Reach} {sp : Nat→Bool} {hd : Bool} {v : Value} {d : DataW H} {p : List MemPlace} {ts : List TypeId} {ds : List (DataW H)} {j : Nat}
  (hsz:(DataW.weightsEach Try.prog ts ds).all (· ≤ reachBytes)=true) (htj:ts[j]? = some 74) (hdj:ds[j]? = some d) (hv:Value.okWide Try.prog W r b0 74 v) (h:DataW.Trod enc Try.prog W base sp hd 74 v d p) :
  ∃ (st wd fv:Int) (g0 g1 g2:ByteArray),v = .agg #[.int .i64 st,.int .i64 wd,.int .i64 fv,.string g0,.string g1,.string g2]∧d = .agg [.lit (.int .i64 st),.lit (.int .i64 wd),.lit (.int .i64 fv),.lit (.string g0.data.toList),.lit (.string g1.data.toList),.lit (.string g2.data.toList)]∧p=[] ∧
   ((Lit.int .i64 st).wf=true∧(Lit.int .i64 wd).wf=true∧(Lit.int .i64 fv).wf=true)∧(g0.size≤140737488351232∧g1.size≤140737488351232∧g2.size≤140737488351232):=by
 have hs:=Try.underlying74
 have hi:=Try.underlying3
 have hg:=Try.underlying9
 obtain⟨cs,rfl,hcs⟩:=okWide_struct hs hv
 have hc6:cs.size=6:=hcs.trans (by kernel_rfl)
 obtain⟨l⟩:=cs
 match l,hc6 with
 | [c0,c1,c2,c3,c4,c5],_ =>
  obtain⟨fuel,hf⟩:=h
  obtain⟨xs,n,_,hx,_,hlen,hgt⟩:=DataW.trod_struct hs hf
  have k3:Try.prog.cellsOf 3=1:=by kernel_rfl
  have k9:Try.prog.cellsOf 9=1:=by kernel_rfl
  match xs,hlen with
  | [y0,y1,y2,y3,y4,y5],_ =>
   have t0:=hgt 0 _ rfl
   have t1:=hgt 1 _ rfl
   have t2:=hgt 2 _ rfl
   have t3:=hgt 3 _ rfl
   have t4:=hgt 4 _ rfl
   have t5:=hgt 5 _ rfl
   simp [Value.cells,k3,k9] at t0 t1 t2 t3 t4 t5
   obtain⟨st,e0,rfl,w0⟩:=DataW.trod_int hi t0
   obtain⟨wd,e1,rfl,w1⟩:=DataW.trod_int hi t1
   obtain⟨fv,e2,rfl,w2⟩:=DataW.trod_int hi t2
   obtain⟨g0,e3,rfl,s0⟩:=DataW.trod_string hg t3
   obtain⟨g1,e4,rfl,s1⟩:=DataW.trod_string hg t4
   obtain⟨g2,e5,rfl,s2⟩:=DataW.trod_string hg t5
   simp at e0 e1 e2 e3 e4 e5 hx
   subst e0 e1 e2 e3 e4 e5
   obtain⟨rfl,rfl⟩:=hx
   have hmem:∀ (q:Nat) (s:ByteArray),[(.lit (.int .i64 st):DataW H),.lit (.int .i64 wd),.lit (.int .i64 fv),.lit (.string g0.data.toList),.lit (.string g1.data.toList),.lit (.string g2.data.toList)][q]? = some (.lit (.string s.data.toList))→([3,3,3,9,9,9]:List TypeId)[q]? = some 9→s.size≤140737488351232:=by
    intro q s hq hq9
    have h1:s.data.toList.length∈DataW.weights Try.prog 74 (.agg [(.lit (.int .i64 st):DataW H),.lit (.int .i64 wd),.lit (.int .i64 fv),.lit (.string g0.data.toList),.lit (.string g1.data.toList),.lit (.string g2.data.toList)]):=by
     simp only [DataW.weights,hs]
     exact DataW.weights_mem_each (j:=q) (t:=9) hq9 hq _ (by simp [DataW.weights])
    have:=List.all_eq_true.1 hsz _ (DataW.weights_mem_each htj hdj _ h1)
    rw [Array.length_toList] at this
    have hr:reachBytes=140737488351232:=rfl
    simpa [hr] using this
   exact⟨st,wd,fv,g0,g1,g2,rfl,rfl,rfl,⟨w0,w1,w2⟩,hmem 3 g0 rfl rfl,hmem 4 g1 rfl rfl,hmem 5 g2 rfl rfl⟩
end
section
variable {H : Type} {enc : TypeId×Value→H} {P : Program} {W : World} {base : Nat} {spare : Nat→Bool} {held : Bool}
theorem open_intsK {t e : TypeId} {A : Option Addr} {n c : Nat} {d : DataW H} {p : List MemPlace} (ht : P.underlying t=some (.slice e)) (he : P.underlying e=some (.int .i64)) (hc : P.cellsOf e=1)
  (h:DataW.Trod enc P W base spare held t (.slice A n c) d p) :
  ∃ l:List Int,n=l.length∧Kd.C (Kd.int .i64) W A l.length l∧l.length≤c:=by
 obtain⟨fuel,hf⟩:=h
 rcases open_ints ht he hc hf with ⟨hcs,_⟩|⟨a,l,c',zs,hcs,_,hl,hm,hlen,hx,hcell,hwz⟩
 ·simp [Value.cells] at hcs
  obtain⟨rfl,rfl,rfl⟩:=hcs
  exact⟨[],rfl,Kd.C_nil _ _,by simp⟩
 ·simp [Value.cells] at hcs
  obtain⟨rfl,rfl,rfl⟩:=hcs
  have hle:n≤zs.length:=by rw [hlen];split<;>omega
  have hlt:(zs.take n).length=n:=by rw [List.length_take];omega
  refine⟨zs.take n,hlt.symm,⟨rfl,?_,fun _=>⟨a,rfl,?_⟩⟩,by omega⟩
  ·have:maxLen=9223372036854775807:=rfl
   omega
  ·intro j x hj
   refine⟨[.int .i64 x],rfl,rfl,?_⟩
   intro i u hi
   have hi0:i=0:=by
    match i,hi with
    | 0,_=>rfl
   subst hi0
   have hu:Value.int .i64 x=u:=by simpa using hi
   subst hu
   have hjl:j<n:=by
    have:=(List.getElem?_eq_some_iff.1 hj).1
    omega
   have hj2:zs[j]? = some x:=by rw [List.getElem?_take] at hj;simpa [hjl] using hj
   have:=hcell j (by omega)
   rw [List.getD_eq_getElem?_getD,hj2] at this
   have hz:(Kd.int .i64).sz=1:=rfl
   rw [hz,Nat.mul_one,Nat.add_zero]
   exact this
end
end Go.Proofs.Ytfiamddinkokbaa.F
end
