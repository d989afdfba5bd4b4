/- Texts joined into one file (wip/tools/pack.py): MergeP, Table, PureChunk -/
import Derived.Test.YtfiamddinkokbaaTA39
import Derived.Test.YtfiamddinkokbaaTA40
import Derived.Test.YtfiamddinkokbaaTA23
import Derived.Test.YtfiamddinkokbaaTA28
set_option linter.unusedVariables false
set_option linter.unusedSimpArgs false
section
namespace Go.Proofs.Ytfiamddinkokbaa.F
open Go.RowKit Go.Shelf Go.Proofs.YtfiamddinkokbaaW.PrintWords
abbrev SSp := S89
abbrev RP := S109
def spanL {α : Type} (s : SSp) (l : List α) : List α := if s.f0<0∨(l.length : Int)<s.f1∨s.f1<s.f0 then [] else (l.take s.f1.toNat).drop s.f0.toNat
def cutL' {α : Type} (i j : Int) (l : List α) : List α := (l.take j.toNat).drop i.toNat
theorem spanL_in {α : Type} {i j : Int} {l : List α} (h0 : 0≤i) (h1 : i≤j) (h2 : j≤l.length) : spanL ⟨i,j⟩ l=cutL' i j l := by
 unfold spanL cutL'
 rw [if_neg (by show ¬ (i<0∨(l.length:Int)<j∨j<i);omega)]
def clsI (c : SC) (B L R : List ByteArray) : Int :=
 if c.f0=true then 0 else if spanL c.f1 B=spanL c.f2 L then 2 else if spanL c.f1 B=spanL c.f3 R then 1 else if spanL c.f2 L=spanL c.f3 R then 3 else 4
def textR (s : ByteArray) : RP := ⟨⟨#[]⟩,⟨#[]⟩,⟨#[]⟩,false,s,⟨#[]⟩,⟨#[]⟩,⟨#[]⟩,false⟩
def hoistN (st : Int) (l r : List ByteArray) : Nat := if st=2 then endsN l r else 0
def hoistM (st : Int) (l r : List ByteArray) : Nat := if st=2 then endsM l r else 0
def midL (xs : List ByteArray) (n m : Nat) : List ByteArray := (xs.take (xs.length-m)).drop n
def hunkR (st : Int) (g0 g1 g2 : ByteArray) (b l r : List ByteArray) : RP :=
 ⟨g0,if st=0 then ⟨#[]⟩ else g1,g2,true,⟨#[]⟩,catB (midL l (hoistN st l r) (hoistM st l r)),if st=0 then ⟨#[]⟩ else catB b,catB (midL r (hoistN st l r) (hoistM st l r)),decide (st≠0)⟩
def pieceR (st fv : Int) (g0 g1 g2 : ByteArray) (k : Int) (b l r : List ByteArray) : List RP :=
 if k=0 then [textR (catB b)]
 else if k=1∨k=3∨(k=4∧fv=1) then [textR (catB l)]
 else if k=2∨fv=3 then [textR (catB r)]
 else [textR (catB (l.take (hoistN st l r))),hunkR st g0 g1 g2 b l r,textR (catB (l.drop (l.length-hoistM st l r)))]
def partsR (st fv : Int) (g0 g1 g2 : ByteArray) (B L R : List ByteArray) (c : SC) : List RP := pieceR st fv g0 g1 g2 (clsI c B L R) (spanL c.f1 B) (spanL c.f2 L) (spanL c.f3 R)
def docB (st fv : Int) (g0 g1 g2 : ByteArray) (B L R : List ByteArray) (cs : List SC) : List RP := ofP (cs.flatMap (partsR st fv g0 g1 g2 B L R))
def countB (B L R : List ByteArray) (cs : List SC) : Int := ((cs.filter (fun c=>decide (clsI c B L R=4))).length : Nat)
def TabOf (x : List Int) (B L : List ByteArray) : Prop := Tab x B.length L.length∧∀ i : Int,0≤i→i<B.length→0≤rd x i→B[i.toNat]? = L[(rd x i).toNat]?
theorem cut_join {α : Type} {i j k : Int} {l : List α} (h0 : 0≤i) (h1 : i≤j) (h2 : j≤k) (h3 : k≤l.length) : cutL' i j l++cutL' j k l=cutL' i k l := by
 unfold cutL'
 rw [show l.take j.toNat=(l.take k.toNat).take j.toNat by rw [List.take_take,Nat.min_eq_left (by omega)]]
 have hl:(l.take k.toNat).length=k.toNat:=by rw [List.length_take];omega
 generalize l.take k.toNat=t at *
 have e:t.drop j.toNat=(t.drop i.toNat).drop (j.toNat-i.toNat):=by rw [List.drop_drop,show i.toNat+(j.toNat-i.toNat)=j.toNat by omega]
 rw [List.drop_take,e,List.take_append_drop]
theorem cut_all {α : Type} (l : List α) : cutL' 0 l.length l=l := by unfold cutL';simp
theorem steps_spans {x y : List Int} {B L R : List ByteArray} : ∀ {o a b : Int} {cs : List SC},Steps x y B.length L.length R.length o a b cs →
  cs.flatMap (fun c=>spanL c.f1 B)=cutL' o B.length B∧cs.flatMap (fun c=>spanL c.f2 L)=cutL' a L.length L∧cs.flatMap (fun c=>spanL c.f3 R)=cutL' b R.length R:=by
 intro o a b cs h
 have nil:∀ {α:Type} (l:List α),cutL' l.length l.length l=[]:=fun l=>by unfold cutL';simp
 induction h with
 | done=>exact⟨(nil B).symm,(nil L).symm,(nil R).symm⟩
 | cons h0 h1 h2 hc _ ih =>
  rename_i o a b o' a' b' c l _
  have l1:=hc.le1
  have l2:=hc.le2
  have l3:=hc.le3
  rw [List.flatMap_cons,List.flatMap_cons,List.flatMap_cons,ih.1,ih.2.1,ih.2.2,hc.sp1,hc.sp2,hc.sp3,spanL_in h0 l1.1 l1.2,spanL_in h1 l2.1 l2.2,spanL_in h2 l3.1 l3.2]
  exact⟨cut_join h0 l1.1 l1.2 (by omega),cut_join h1 l2.1 l2.2 (by omega),cut_join h2 l3.1 l3.2 (by omega)⟩
theorem catB_append (a b : List ByteArray) : catB (a++b)=catB a++catB b := bytes_ext (by unfold catB;rw [ByteArray.data_append,Array.toList_append,data_toB,data_toB,data_toB,List.flatMap_append])
theorem catB_nil : catB []=⟨#[]⟩ := rfl
theorem catB_flat {α : Type} (g : α→List ByteArray) : ∀ cs : List α,catB (cs.map (fun c=>catB (g c)))=catB (cs.flatMap g)
 | []=>rfl
 | c::cs=>by
  rw [List.map_cons,List.flatMap_cons,catB_append,←catB_flat g cs,show ∀ (s:ByteArray) l,catB (s::l)=catB ([s]++l) from fun _ _=>rfl,catB_append]
  congr 1
  exact bytes_ext (by unfold catB;simp [data_toB])
theorem isTextP_textR (s : ByteArray) : isTextP (textR s)=true := by simp [isTextP,textR,bytes_toList]
theorem of_texts_acc : ∀ (ss : List ByteArray) (z : ByteArray),(ss.map textR).foldl ofStep [textR z]=[textR (z++catB ss)]
 | [],z=>by
  rw [catB_nil]
  show [textR z]=[textR (z++_)]
  rw [show z++(⟨#[]⟩:ByteArray)=z from bytes_ext (by rw [ByteArray.data_append,Array.toList_append];simp)]
 | s::ss,z=>by
  rw [List.map_cons,List.foldl_cons]
  have hcat:catB (s::ss)=s++catB ss:=by
   rw [show s::ss=[s]++ss from rfl,catB_append]
   congr 1
   exact bytes_ext (by unfold catB;simp [data_toB])
  by_cases hn:isNoneP (textR s)=true
  ·rw [ofStep_none _ _ hn,of_texts_acc ss z,hcat]
   have:s=⟨#[]⟩:=by
    unfold isNoneP at hn
    rw [isTextP_textR,Bool.true_and] at hn
    have:s.toList.isEmpty=true:=hn
    exact bytes_ext (by rw [←bytes_toList];exact List.isEmpty_iff.1 this)
   subst this
   rw [show (⟨#[]⟩:ByteArray)++catB ss=catB ss from bytes_ext (by rw [ByteArray.data_append,Array.toList_append];simp)]
  ·have:=ofStep_join [] (textR z) (textR s) hn (isTextP_textR s) (isTextP_textR z)
   rw [List.nil_append,List.nil_append] at this
   rw [this,show joinP (textR z) (textR s)=textR (z++s) from rfl,of_texts_acc ss (z++s),hcat]
   congr 2
   exact bytes_ext (by rw [ByteArray.data_append,ByteArray.data_append,ByteArray.data_append,ByteArray.data_append,Array.toList_append,Array.toList_append,Array.toList_append,Array.toList_append,List.append_assoc])
theorem of_texts : ∀ ss : List ByteArray,ofP (ss.map textR)=if (catB ss).size=0 then [] else [textR (catB ss)]
 | []=>rfl
 | s::ss=>by
  have hcat:catB (s::ss)=s++catB ss:=by
   rw [show s::ss=[s]++ss from rfl,catB_append]
   congr 1
   exact bytes_ext (by unfold catB;simp [data_toB])
  show ((s::ss).map textR).foldl ofStep []=_
  rw [List.map_cons,List.foldl_cons,hcat]
  by_cases hn:isNoneP (textR s)=true
  ·rw [ofStep_none _ _ hn]
   have:s=⟨#[]⟩:=by
    unfold isNoneP at hn
    rw [isTextP_textR,Bool.true_and] at hn
    have:s.toList.isEmpty=true:=hn
    exact bytes_ext (by rw [←bytes_toList];exact List.isEmpty_iff.1 this)
   subst this
   rw [show (⟨#[]⟩:ByteArray)++catB ss=catB ss from bytes_ext (by rw [ByteArray.data_append,Array.toList_append];simp)]
   exact of_texts ss
  ·rw [ofStep_nil _ hn,of_texts_acc ss s,if_neg ?_]
   intro h0
   rw [ByteArray.size_append] at h0
   apply hn
   unfold isNoneP
   rw [isTextP_textR,Bool.true_and]
   exact (empty_toList s).2 (by omega)
theorem doc_texts {st fv : Int} {g0 g1 g2 : ByteArray} {B L R : List ByteArray} {cs : List SC} (g : SC→List ByteArray) (h : ∀ c∈cs,partsR st fv g0 g1 g2 B L R c=[textR (catB (g c))]) :
  docB st fv g0 g1 g2 B L R cs=if (catB (cs.flatMap g)).size=0 then [] else [textR (catB (cs.flatMap g))]:=by
 have:cs.flatMap (partsR st fv g0 g1 g2 B L R)=(cs.map (fun c=>catB (g c))).map textR:=by
  induction cs with
  | nil=>rfl
  | cons c cs ih =>
   rw [List.flatMap_cons,List.map_cons,List.map_cons,h c (List.mem_cons_self ..),ih (fun c hc=>h c (List.mem_cons_of_mem _ hc))];rfl
 unfold docB
 rw [this,of_texts,catB_flat]
theorem print_text {s : ByteArray} {w : Int} (h1 : textRun s<w) (h2 : w≤1073741824) : printP (if s.size=0 then [] else [textR s]) w=(s,0) := by
 have h0:=textRun_bound s
 rw [printP_in (by omega) h2]
 by_cases hs:s.size=0
 ·rw [if_pos hs,if_pos (show rightP false []=true from rfl),if_pos (by unfold fitsP;rw [decide_eq_true (show 1≤w by omega)];rfl)]
  have:s=⟨#[]⟩:=bytes_ext (List.eq_nil_of_length_eq_zero (by rw [size_data];exact hs))
  rw [this];rfl
 ·rw [if_neg hs]
  have he:s.toList.isEmpty=false:=by
   cases hx:s.toList.isEmpty with
   | false=>rfl
   | true=>exact absurd ((empty_toList s).1 hx) hs
  have hr:rightP false [textR s]=true:=by
   rw [rightP_cons]
   unfold oneP
   rw [isTextP_textR,show (textR s).f4=s from rfl,he]
   rfl
  have hf:fitsP [textR s] w=true:=by
   unfold fitsP
   rw [decide_eq_true (show 1≤w by omega)]
   rw [List.all_cons,List.all_nil,Bool.and_true,Bool.true_and]
   unfold narrowerP
   have e0:textRun (⟨#[]⟩:ByteArray)=0:=rfl
   rw [show (textR s).f4=s from rfl,show (textR s).f5=⟨#[]⟩ from rfl,show (textR s).f6=⟨#[]⟩ from rfl,show (textR s).f7=⟨#[]⟩ from rfl,e0,decide_eq_true h1,decide_eq_true (show (0:Int)<w by omega)]
   rfl
  rw [if_pos hr,if_pos hf]
  have:printL w ([textR s].map to106)=s.data.toList:=by simp [printL,partL,to106,textR]
  rw [this,toB_data]
def atB (l : List SP) (i : Int) : Int := match l.find? (fun p=>decide (p.f0=i)) with
 | some p=>p.f1
 | none=>-1
def tabB (n : Nat) (l : List SP) : List Int := l.foldl (fun t p=>t.set p.f0.toNat p.f1) (List.replicate n (-1))
theorem fold_length : ∀ (l : List SP) (t : List Int),(l.foldl (fun t p=>t.set p.f0.toNat p.f1) t).length=t.length
 | [],t=>rfl
 | p::l,t=>by rw [List.foldl_cons,fold_length l,List.length_set]
theorem tab_length (n : Nat) (l : List SP) : (tabB n l).length=n := by unfold tabB;rw [fold_length,List.length_replicate]
theorem fold_at : ∀ (l : List SP) (t : List Int),(∀ p∈l,0≤p.f0∧p.f0<t.length)→l.Pairwise Rise→∀ i : Int,0≤i→i<t.length →
  rd (l.foldl (fun t p=>t.set p.f0.toNat p.f1) t) i=(match l.find? (fun p=>decide (p.f0=i)) with|some p=>p.f1|none=>rd t i)
 | [],t,_,_,i,_,_=>rfl
 | p::l,t,h,hp,i,h0,h1=>by
  have hpl:=h p (List.mem_cons_self ..)
  rw [List.foldl_cons,fold_at l (t.set p.f0.toNat p.f1) (fun q hq=>by rw [List.length_set];exact h q (List.mem_cons_of_mem _ hq)) (List.pairwise_cons.1 hp).2 i h0 (by rw [List.length_set];exact h1)]
  by_cases hi:p.f0=i
  ·have hno:l.find? (fun p=>decide (p.f0=i))=none:=List.find?_eq_none.2 (fun q hq hc=>by
    have:=((List.pairwise_cons.1 hp).1 q hq).1
    have:=of_decide_eq_true hc
    omega)
   rw [hno,List.find?_cons_of_pos (by simpa using hi)]
   subst hi
   exact rd_set_same h0 h1
  ·rw [List.find?_cons_of_neg (by simpa using hi)]
   cases l.find? (fun p=>decide (p.f0=i)) with
   | some q=>rfl
   | none=>exact rd_set_ne hpl.1 h0 (fun e=>hi e.symm)
theorem tab_at {n : Nat} {l : List SP} (h : ∀ p∈l,0≤p.f0∧p.f0<n) (hp : l.Pairwise Rise) {i : Int} (h0 : 0≤i) (h1 : i<n) : rd (tabB n l) i=atB l i := by
 unfold tabB atB
 rw [fold_at l _ (fun p hpm=>by rw [List.length_replicate];exact h p hpm) hp i h0 (by rw [List.length_replicate];exact h1)]
 have:rd (List.replicate n (-1)) i = -1:=by
  unfold rd;rw [List.getD_eq_getElem?_getD,List.getElem?_replicate,if_pos (by omega)];rfl
 cases l.find? (fun p=>decide (p.f0=i)) with
 | some q=>rfl
 | none=>exact this
theorem at_some {l : List SP} {i : Int} (h : atB l i ≠ -1) : ∃ p∈l,p.f0=i∧p.f1=atB l i := by
 unfold atB at *
 cases hf:l.find? (fun p=>decide (p.f0=i)) with
 | none=>rw [hf] at h;exact absurd rfl h
 | some p=>exact⟨p,List.mem_of_find?_eq_some hf,(by have:=List.find?_some hf;simpa using this),rfl⟩
theorem rise_cases : ∀ {l : List SP},l.Pairwise Rise→∀ p∈l,∀ q∈l,p=q∨Rise p q∨Rise q p
 | x::l,h,p,hp,q,hq=>by
  rcases List.mem_cons.1 hp with rfl|hp2
  ·rcases List.mem_cons.1 hq with rfl|hq2
   ·exact .inl rfl
   ·exact .inr (.inl ((List.pairwise_cons.1 h).1 q hq2))
  ·rcases List.mem_cons.1 hq with rfl|hq2
   ·exact .inr (.inr ((List.pairwise_cons.1 h).1 p hp2))
   ·exact rise_cases (List.pairwise_cons.1 h).2 p hp2 q hq2
theorem at_of_mem {l : List SP} (hr : l.Pairwise Rise) {p : SP} (hp : p∈l) : atB l p.f0=p.f1 := by
 unfold atB
 cases hf:l.find? (fun q=>decide (q.f0=p.f0)) with
 | none =>
  have:=List.find?_eq_none.1 hf p hp
  simp at this
 | some q =>
  have e:q.f0=p.f0:=by have:=List.find?_some hf;simpa using this
  rcases rise_cases hr p hp q (List.mem_of_find?_eq_some hf) with h|h|h
  ·rw [h]
  ·have:=h.1;omega
  ·have:=h.1;omega
theorem tab_chain {a b : List Int} {l : List SP} (h : Chain a b 0 a.length 0 b.length l) : Tab (tabB a.length l) a.length b.length := by
 have hat:∀ i:Int,0≤i→i<a.length→rd (tabB a.length l) i=atB l i:=fun i h0 h1=>tab_at (fun p hp=>⟨(h.2 p hp).1,(h.2 p hp).2.1⟩) h.1 h0 h1
 refine⟨by rw [tab_length],fun i h0 h1=>?_,fun i j h0 h1 h2 g0 g1=>?_⟩
 ·rw [hat i h0 h1]
  by_cases hn:atB l i = -1
  ·omega
  ·obtain⟨p,hp,_,e⟩:=at_some hn
   have:=h.2 p hp
   omega
 ·rw [hat i h0 (by omega)] at g0 ⊢
  rw [hat j (by omega) h2] at g1 ⊢
  obtain⟨p,hp,e1,e2⟩:=at_some (l:=l) (i:=i) (by omega)
  obtain⟨q,hq,f1,f2⟩:=at_some (l:=l) (i:=j) (by omega)
  rcases rise_cases h.1 p hp q hq with g|g|g
  ·subst g;omega
  ·have:=g.2;omega
  ·have:=g.1;omega
theorem tab_same {a b : List Int} {l : List SP} (h : Chain a b 0 a.length 0 b.length l) {i : Int} (h0 : 0≤i) (h1 : i<a.length) (h2 : 0≤rd (tabB a.length l) i) : rd a i=rd b (rd (tabB a.length l) i) := by
 rw [tab_at (fun p hp=>⟨(h.2 p hp).1,(h.2 p hp).2.1⟩) h.1 h0 h1] at h2 ⊢
 obtain⟨p,hp,e1,e2⟩:=at_some (l:=l) (i:=i) (by omega)
 have:=(h.2 p hp).2.2.2.2
 rw [←e2,←e1]
 exact this
theorem rdP_at (l : List SP) (i : Int) (xs ys : List SP) (c : SP) (h : l=xs++c::ys) (hi : i=xs.length) : rd_T196 l i=c := rdOf_at _ l i xs ys c h hi
theorem table_in (n m : Nat) (l : List SP) (hn : n≤4000000000) (hm : m≤4000000000) (hl : l.length≤4000000000) (hb : ∀ p∈l,0≤p.f0∧p.f0<n∧0≤p.f1∧p.f1<m) :
  ∀ (rest done:List SP) (t:List Int) (i wa wb:Int),l=done++rest→i=done.length→t.length=n→rest.Pairwise Rise→(∀ p∈rest,wa<p.f0∧wb<p.f1)→Ev (fun k=>chunk_table.l0 k n m t l (l.length:Int) i wa wb) (rest.foldl (fun t p=>t.set p.f0.toNat p.f1) t,true)
 | [],done,t,i,wa,wb,hd,hi,ht,hr,hw=>by
  refine Ev.succ ?_
  simp only [chunk_table.l0]
  exact Ev.neg (by rw [hd];simp;omega) (Ev.val rfl)
 | p::rest,done,t,i,wa,wb,hd,hi,ht,hr,hw=>by
  have hsz:l.length=done.length+(rest.length+1):=by rw [hd];simp
  have hwr:wrap64 (i+1)=i+1:=wrap_in (by omega) (by omega)
  have hrd:=rdP_at l i done rest p hd hi
  have hp:=hb p (by rw [hd];simp)
  have hwp:=hw p (List.mem_cons_self ..)
  refine Ev.succ ?_
  simp only [chunk_table.l0,hwr,hrd]
  refine Ev.pos (by omega) (Ev.pos (by omega) (Ev.pos (by omega) (Ev.neg (by omega) (Ev.neg (by omega) (Ev.neg (by omega) (Ev.neg (by omega) (Ev.pos (by omega) (Ev.pos (by omega) ?_))))))))
  exact table_in n m l hn hm hl hb rest (done++[p]) (t.set p.f0.toNat p.f1) (i+1) p.f0 p.f1 (by rw [hd];simp) (by simp;omega) (by rw [List.length_set];exact ht) (List.pairwise_cons.1 hr).2 (fun q hq=>(List.pairwise_cons.1 hr).1 q hq)
def Rises (n m : Nat) (l : List SP) : Prop := l.Pairwise Rise∧∀ p∈l,0≤p.f0∧p.f0<n∧0≤p.f1∧p.f1<m
theorem ev_table {n m : Nat} {l : List SP} (h : Rises n m l) (ha : n≤4000000000) (hb : m≤4000000000) (hl : l.length≤4000000000) : Ev (fun k=>chunk_table.f k (n : Int) (m : Int) l) (tabB n l,true) := by
 unfold chunk_table.f
 refine Ev.neg (by omega) ?_
 rw [decide_eq_false (show ¬ (m:Int)<0 by omega)]
 refine Ev.succ ?_
 simp only [chunk_table.j0]
 refine Ev.neg (by simp) (Ev.bind (a:=List.replicate n (-1)) (Ev.const ?_) ?_)
 ·unfold slices_Repeat_int_int.f
  rw [if_pos ⟨rfl,by omega,by omega⟩];simp
 ·exact table_in n m l ha hb hl h.2 l [] _ 0 (-1) (-1) rfl rfl (by simp) h.1 (fun p hp=>by have:=h.2 p hp;omega)
theorem together_f {x y : List Int} {base left right o a b i : Int} (hx : Tab x base left) (hy : Tab y base right) (ho : 0≤o) (hi : 0≤i) (h1 : o+i≤8000000000) (h2 : a+i≤8000000000) (h3 : b+i≤8000000000) (ha : 0≤a) (hb : 0≤b) :
  ∃ t:Bool,(t=true↔Tog x y base o a b i)∧chunk_sweep_together.f x y o a b i=some (t,o,a,b):=by
 have e1:wrap64 (o+i)=o+i:=wrap_in (by omega) (by omega)
 have e2:wrap64 (a+i)=a+i:=wrap_in (by omega) (by omega)
 have e3:wrap64 (b+i)=b+i:=wrap_in (by omega) (by omega)
 have l1:=hx.len
 have l2:=hy.len
 unfold chunk_sweep_together.f Tog
 rw [e1,e2,e3]
 by_cases c1:o+i<base
 ·rw [if_pos (by omega),if_pos (by omega)]
  by_cases c2:rd x (o+i)=a+i
  ·rw [if_pos c2,if_pos (by omega)]
   exact⟨_,by rw [beq_iff_eq];exact⟨fun h=>⟨c1,c2,h⟩,fun h=>h.2.2⟩,rfl⟩
  ·rw [if_neg c2]
   exact⟨false,by simp;omega,rfl⟩
 ·rw [if_neg (by omega)]
  exact⟨false,by simp;omega,rfl⟩
theorem stable_in {x y : List Int} {base left right o a b n : Int} (hx : Tab x base left) (hy : Tab y base right) (ho : 0≤o) (ha : 0≤a) (hb : 0≤b) (hs : StabIs x y base o a b n) (h1 : o+n≤8000000000) (h2 : a+n≤8000000000) (h3 : b+n≤8000000000) :
  ∀ (d:Nat) (i:Int),0≤i→i+d=n→Ev (fun k=>chunk_sweep_stable.l0 k i x y o a b) (n,o,a,b)
 | 0,i,h0,he=>by
  obtain⟨t,ht,hf⟩:=together_f (i:=i) hx hy ho h0 (by omega) (by omega) (by omega) ha hb
  have:t=false:=by
   cases t with
   | false=>rfl
   | true=>exact absurd (ht.1 rfl) (by rw [show i=n by omega];exact hs.2.2)
  subst this
  refine Ev.succ ?_
  simp only [chunk_sweep_stable.l0]
  refine Ev.bind (Ev.const hf) (Ev.neg (by simp) (Ev.val ?_))
  rw [show i=n by omega]
 | d+1,i,h0,he=>by
  obtain⟨t,ht,hf⟩:=together_f (i:=i) hx hy ho h0 (by omega) (by omega) (by omega) ha hb
  have:t=true:=ht.2 (hs.2.1 i h0 (by omega))
  subst this
  refine Ev.succ ?_
  simp only [chunk_sweep_stable.l0]
  refine Ev.bind (Ev.const hf) (Ev.pos rfl ?_)
  rw [wrap_in (show -9223372036854775808≤i+1 by omega) (by omega)]
  exact stable_in hx hy ho ha hb hs h1 h2 h3 d (i+1) (by omega) (by omega)
theorem next_in {x y : List Int} {base left right o a b tn : Int} (hx : Tab x base left) (hy : Tab y base right) (ho : 0≤o) (hn : NextIs x y base o a b tn) (h1 : base≤8000000000) :
  ∀ (d:Nat) (i:Int),o≤i→i+d=tn→Ev (fun k=>chunk_sweep_next.l0 k i x y o a b) (tn,o,a,b)
 | 0,i,h0,he=>by
  have e:i=tn:=by omega
  subst e
  have l1:=hx.len
  have l2:=hy.len
  refine Ev.succ ?_
  simp only [chunk_sweep_next.l0]
  by_cases hb:i<base
  ·have:=hn.2.2.2 hb
   exact Ev.pos (by omega) (Ev.pos (by omega) (Ev.neg (by omega) (Ev.pos (by omega) (Ev.neg (by omega) (Ev.val rfl)))))
  ·exact Ev.neg (by omega) (Ev.val rfl)
 | d+1,i,h0,he=>by
  have l1:=hx.len
  have l2:=hy.len
  have hb:=hn.2.1
  have hlt:=hn.2.2.1 i h0 (by omega)
  have next:=next_in hx hy ho hn h1 d (i+1) (by omega) (by omega)
  refine Ev.succ ?_
  simp only [chunk_sweep_next.l0]
  rw [wrap_in (show -9223372036854775808≤i+1 by omega) (by omega)]
  refine Ev.pos (by omega) (Ev.pos (by omega) ?_)
  by_cases hc:rd x i<a
  ·exact Ev.pos hc next
  ·exact Ev.neg hc (Ev.pos (by omega) (Ev.pos (by omega) next))
theorem ev_step {x y : List Int} {base left right o a b n : Int} (hx : Tab x base left) (hy : Tab y base right) (ho : 0≤o) (ha : 0≤a) (hb : 0≤b) (h1 : base≤4000000000) (h2 : left≤4000000000) (h3 : right≤4000000000) (hs : StabIs x y base o a b n) (ho' : o≤base) (ha' : a≤left) (hb' : b≤right) :
  Ev (fun k=>chunk_sweep_stable.f k x y o a b) (n,o,a,b):=by
 by_cases hp:0<n
 ·obtain⟨g1,g2,g3⟩:=stab_in hx hy ho hs hp
  exact stable_in hx hy ho ha hb hs (by omega) (by omega) (by omega) n.toNat 0 (by omega) (by omega)
 ·have:=hs.1
  exact stable_in hx hy ho ha hb hs (by omega) (by omega) (by omega) n.toNat 0 (by omega) (by omega)
theorem sweep_len {x y : List Int} {base left right : Int} (hx : Tab x base left) (hy : Tab y base right) : ∀ {o a b : Int} {l : List SC},Sweep x y base left right o a b l→0≤o→o≤base→0≤a→a≤left→0≤b→b≤right→(l.length : Int)≤(base-o)+(left-a)+(right-b) := by
 intro o a b l h h0 h1 h2 h3 h4 h5
 have hs:=steps_of hx hy h h0 h1 h2 h3 h4 h5
 clear h h0 h1 h2 h3 h4 h5
 induction hs with
 | done=>simp
 | cons h0 h1 h2 hc _ ih =>
  have:=hc.some
  have:=hc.le1
  have:=hc.le2
  have:=hc.le3
  simp only [List.length_cons]
  omega
theorem ev_ofL {x y : List Int} {base left right : Int} (hx : Tab x base left) (hy : Tab y base right) (h1 : base≤4000000000) (h2 : left≤4000000000) (h3 : right≤4000000000) :
  ∀ {o a b:Int} {l:List SC},Sweep x y base left right o a b l→0≤o→o≤base→0≤a→a≤left→0≤b→b≤right→∀ out:List SC,out.length+l.length≤100000000000→Ev (fun k=>ofL x y base left right k o a b out) (out++l):=by
 intro o a b l h
 induction h with
 | done h =>
  intro _ _ _ _ _ _ out _
  refine Ev.succ ?_
  simp only [ofL]
  rw [List.append_nil]
  exact Ev.neg h (Ev.val rfl)
 | stab h hs hp _ ih =>
  intro g0 g1 g2 g3 g4 g5 out hl
  rename_i o a b n l _
  obtain⟨k1,k2,k3⟩:=stab_in hx hy g0 hs hp
  refine Ev.succ ?_
  simp only [ofL]
  refine Ev.pos h (Ev.bind (a:=(n,o+n,a+n,b+n)) ?_ ?_)
  ·unfold stepO
   refine Ev.bind (ev_step hx hy g0 g2 g4 h1 h2 h3 hs g1 g3 g5) (Ev.neg (by omega) (Ev.val ?_))
   rw [wrap_in (by omega) (by omega),wrap_in (by omega) (by omega),wrap_in (by omega) (by omega)]
  ·refine Ev.pos (by simp only [List.length_cons] at hl;omega) ((ih (by omega) k1 (by omega) k2 (by omega) k3 (out++[chunkC n o a b (o+n) (a+n) (b+n)]) (by simp only [List.length_append,List.length_cons,List.length_nil] at *;omega)).cast ?_)
   simp
 | next h hs hn hb _ ih =>
  intro g0 g1 g2 g3 g4 g5 out hl
  rename_i o a b tn l _
  have m1:=hx.rng tn (by have:=hn.1;omega) hb
  have m2:=hy.rng tn (by have:=hn.1;omega) hb
  have m3:=hn.2.2.2 hb
  have m4:=hn.1
  have l1:=hx.len
  have l2:=hy.len
  refine Ev.succ ?_
  simp only [ofL]
  refine Ev.pos h (Ev.bind (a:=(0,tn,rd x tn,rd y tn)) ?_ ?_)
  ·unfold stepO
   exact Ev.bind (ev_step hx hy g0 g2 g4 h1 h2 h3 hs g1 g3 g5) (Ev.pos rfl (Ev.bind (a:=(tn,o,a,b)) (next_in hx hy g0 hn (by omega) (tn-o).toNat o (by omega) (by omega)) (Ev.pos hb (Ev.pos ⟨by omega,by omega,by omega⟩ (Ev.val rfl)))))
  ·refine Ev.pos (by simp only [List.length_cons] at hl;omega) ((ih (by omega) (by omega) (by omega) (by omega) (by omega) (by omega) (out++[chunkC 0 o a b tn (rd x tn) (rd y tn)]) (by simp only [List.length_append,List.length_cons,List.length_nil] at *;omega)).cast ?_)
   simp
 | last h hs hn _ ih =>
  intro g0 g1 g2 g3 g4 g5 out hl
  rename_i o a b l _
  refine Ev.succ ?_
  simp only [ofL]
  refine Ev.pos h (Ev.bind (a:=(0,base,left,right)) ?_ ?_)
  ·unfold stepO
   exact Ev.bind (ev_step hx hy g0 g2 g4 h1 h2 h3 hs g1 g3 g5) (Ev.pos rfl (Ev.bind (a:=(base,o,a,b)) (next_in hx hy g0 hn (by omega) (base-o).toNat o (by omega) (by omega)) (Ev.neg (by omega) (Ev.val rfl))))
  ·refine Ev.pos (by simp only [List.length_cons] at hl;omega) ((ih (by omega) (by omega) (by omega) (by omega) (by omega) (by omega) (out++[chunkC 0 o a b base left right]) (by simp only [List.length_append,List.length_cons,List.length_nil] at *;omega)).cast ?_)
   simp
theorem ev_chunk_of {nB nL nR : Nat} {lp rp : List SP} {cs : List SC} (h1 : Rises nB nL lp) (h2 : Rises nB nR rp) (hx : Tab (tabB nB lp) nB nL) (hy : Tab (tabB nB rp) nB nR) (ha : nB≤1000000000) (hb : nL≤1000000000) (hc : nR≤1000000000) (hl : lp.length≤4000000000) (hr : rp.length≤4000000000)
  (hs:Sweep (tabB nB lp) (tabB nB rp) nB nL nR 0 0 0 cs):Ev (fun k=>chunk_Of.f k (nB:Int) (nL:Int) (nR:Int) lp rp) (cs,0):=by
 have hlen:=sweep_len hx hy hs (by omega) (by omega) (by omega) (by omega) (by omega) (by omega)
 unfold chunk_Of.f ofF
 exact Ev.bind (ev_table h1 (by omega) (by omega) hl) (Ev.bind (ev_table h2 (by omega) (by omega) hr) (Ev.pos ⟨rfl,rfl⟩ (Ev.bind ((ev_ofL hx hy (by omega) (by omega) (by omega) hs (by omega) (by omega) (by omega) (by omega) (by omega) (by omega) [] (by simp only [List.length_nil];omega)).cast (by simp)) (Ev.val rfl))))
theorem span_cut (i j : Int) (l : List ByteArray) (hl : l.length≤4000000000) : chunk_Span_Cut.f i j l=some (spanL ⟨i,j⟩ l) := by
 unfold chunk_Span_Cut.f spanL
 by_cases c1:i<0
 ·rw [if_pos c1,if_pos (.inl c1)]
 ·rw [if_neg c1]
  by_cases c2:j>(l.length:Int)
  ·rw [if_pos c2,if_pos (.inr (.inl c2))]
  ·rw [if_neg c2]
   by_cases c3:j<i
   ·rw [if_pos c3,if_pos (.inr (.inr c3))]
   ·rw [if_neg c3,if_pos (by omega),if_pos (by omega),if_pos (by omega),if_neg (by show ¬ (i<0∨(l.length:Int)<j∨j<i);omega)]
    unfold slices_Clone_string_string.f
    rw [if_pos (by rw [List.length_drop,List.length_take];omega)]
    rfl
theorem span_len {s : SSp} {l : List ByteArray} : (spanL s l).length≤l.length := by
 unfold spanL
 split
 ·simp
 ·rw [List.length_drop,List.length_take];omega
theorem equal_in (a b : List ByteArray) (hn : a.length≤4000000000) (hab : a.length=b.length) : ∀ (ra rb da db : List ByteArray) (i : Int),a=da++ra→b=db++rb→da.length=db.length→i=da.length→Ev (fun k=>slices_Equal_string_string.l0 k a b (a.length : Int) i) (decide (ra=rb))
 | [],rb,da,db,i,ha,hb,hd,ei=>by
  have:rb=[]:=by
   rw [ha,hb] at hab;simp at hab;exact List.length_eq_zero_iff.1 (by omega)
  subst this
  refine Ev.succ ?_
  simp only [slices_Equal_string_string.l0]
  refine Ev.neg (by rw [ha];simp;omega) (Ev.val (by simp))
 | x::ra,[],da,db,i,ha,hb,hd,ei=>by
  rw [ha,hb] at hab;simp at hab;omega
 | x::ra,y::rb,da,db,i,ha,hb,hd,ei=>by
  have hsz:a.length=da.length+(ra.length+1):=by rw [ha];simp
  have hw:wrap64 (i+1)=i+1:=wrap_in (by omega) (by omega)
  refine Ev.succ ?_
  simp only [slices_Equal_string_string.l0,hw,rdOf_at _ a i da ra x ha ei,rdOf_at _ b i db rb y hb (by omega)]
  refine Ev.pos (by omega) (Ev.pos (by omega) (Ev.pos (by omega) (Ev.pos (by omega) ?_)))
  by_cases he:x.toList=y.toList
  ·refine Ev.pos he ?_
   have hxy:=toList_inj he
   subst hxy
   refine (equal_in a b hn hab ra rb (da++[x]) (db++[x]) (i+1) (by rw [ha];simp) (by rw [hb];simp) (by simp [hd]) (by simp;omega)).cast ?_
   exact decide_eq_decide.2 ⟨fun h=>by rw [h],fun h=>(List.cons.inj h).2⟩
  ·refine Ev.neg he (Ev.val ?_)
   exact (decide_eq_false (fun h=>he (by rw [(List.cons.inj h).1]))).symm
theorem ev_same (a b : List ByteArray) (hn : a.length≤4000000000) : Ev (fun k=>trim_Same_string.f k a b) (decide (a=b)) := by
 unfold trim_Same_string.f
 refine Ev.bind ?_ (Ev.val rfl)
 unfold slices_Equal_string_string.f
 by_cases h:(a.length:Int)=b.length
 ·exact Ev.pos h (equal_in a b hn (by omega) a b [] [] 0 rfl rfl rfl rfl)
 ·refine Ev.neg h (Ev.val ?_)
  exact (decide_eq_false (fun e=>h (by rw [e]))).symm
theorem ev_class (c : SC) (B L R : List ByteArray) (hB : B.length≤4000000000) (hL : L.length≤4000000000) (hR : R.length≤4000000000) : Ev (fun k=>chunk_Chunk_Class.f k c.f0 c.f1.f0 c.f1.f1 c.f2.f0 c.f2.f1 c.f3.f0 c.f3.f1 B L R) (clsI c B L R) := by
 unfold chunk_Chunk_Class.f classF clsI
 have s1:=span_len (s:=c.f1) (l:=B)
 have s2:=span_len (s:=c.f2) (l:=L)
 refine Ev.bind (Ev.const (span_cut _ _ B hB)) (Ev.bind (Ev.const (span_cut _ _ L hL)) (Ev.bind (Ev.const (span_cut _ _ R hR)) ?_))
 by_cases c0:c.f0=true
 ·rw [if_pos c0];exact Ev.pos c0 (Ev.val rfl)
 ·rw [if_neg c0]
  refine Ev.neg c0 (Ev.bind (ev_same _ _ (Nat.le_trans span_len hB)) ?_)
  by_cases c1:spanL c.f1 B=spanL c.f2 L
  ·rw [if_pos c1];exact Ev.pos (by simpa using c1) (Ev.val rfl)
  ·rw [if_neg c1]
   refine Ev.neg (by simpa using c1) (Ev.bind (ev_same _ _ (Nat.le_trans span_len hB)) ?_)
   by_cases c2:spanL c.f1 B=spanL c.f3 R
   ·rw [if_pos c2];exact Ev.pos (by simpa using c2) (Ev.val rfl)
   ·rw [if_neg c2]
    refine Ev.neg (by simpa using c2) (Ev.bind (ev_same _ _ (Nat.le_trans span_len hL)) ?_)
    by_cases c3:spanL c.f2 L=spanL c.f3 R
    ·rw [if_pos c3];exact Ev.pos (by simpa using c3) (Ev.val rfl)
    ·rw [if_neg c3];exact Ev.neg (by simpa using c3) (Ev.val rfl)
theorem ev_cut (c : SC) (B L R : List ByteArray) (hB : B.length≤4000000000) (hL : L.length≤4000000000) (hR : R.length≤4000000000) :
  Ev (fun k=>build_Files_cut.f k B L R c.f0 c.f1.f0 c.f1.f1 c.f2.f0 c.f2.f1 c.f3.f0 c.f3.f1) (c.f0,c.f1.f0,c.f1.f1,c.f2.f0,c.f2.f1,c.f3.f0,c.f3.f1,spanL c.f1 B,spanL c.f2 L,spanL c.f3 R,clsI c B L R):=by
 unfold build_Files_cut.f
 exact Ev.bind (Ev.const (span_cut _ _ B hB)) (Ev.bind (Ev.const (span_cut _ _ L hL)) (Ev.bind (Ev.const (span_cut _ _ R hR)) (Ev.bind (ev_class c B L R hB hL hR) (Ev.val rfl))))
theorem count_in (B L R : List ByteArray) (hB : B.length≤4000000000) (hL : L.length≤4000000000) (hR : R.length≤4000000000) : ∀ (rest : List SC) (n : Int),Ev (fun k=>countL k B L R rest n) (n+countB B L R rest)
 | [],n=>by
  simp only [countL]
  exact Ev.val (by simp [countB])
 | c::rest,n=>by
  simp only [countL]
  refine Ev.bind (ev_cut c B L R hB hL hR) ?_
  by_cases hc:clsI c B L R=4
  ·simp only [if_pos hc]
   refine (count_in B L R hB hL hR rest (n+1)).cast ?_
   unfold countB
   rw [List.filter_cons_of_pos (by simpa using hc)]
   simp only [List.length_cons]
   omega
  ·simp only [if_neg hc]
   refine (count_in B L R hB hL hR rest n).cast ?_
   unfold countB
   rw [List.filter_cons_of_neg (by simpa using hc)]
theorem ev_count (B L R : List ByteArray) (hB : B.length≤4000000000) (hL : L.length≤4000000000) (hR : R.length≤4000000000) (l : List SC) (hl : l.length≤4000000000000) : Ev (fun k=>build_Count.f k B L R l) (countB B L R l) := by
 unfold build_Count.f countF
 exact Ev.pos hl ((count_in B L R hB hL hR l 0).cast (by omega))
end Go.Proofs.Ytfiamddinkokbaa.F
end
