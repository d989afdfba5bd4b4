/- Texts joined into one file (wip/tools/pack.py): ApartLaw, ApartText -/
import Derived.Test.YtfiamddinkokbaaTA42
import Derived.Test.YtfiamddinkokbaaTA40
set_option linter.unusedVariables false
set_option linter.unusedSimpArgs false
section
namespace Go.Proofs.Ytfiamddinkokbaa.F
open Go.RowKit Go.Shelf Go.Proofs.YtfiamddinkokbaaW.PrintWords
def chosen (K : Nat→Bool) (lo n : Nat) : Nat := ((List.range' lo n).filter K).length
theorem chosen_succ (K : Nat→Bool) (lo n : Nat) : chosen K lo (n+1)=(if K lo=true then 1 else 0)+chosen K (lo+1) n := by
 unfold chosen
 rw [List.range'_succ,List.filter_cons]
 split
 ·rw [List.length_cons];omega
 ·omega
theorem rising_le (K : Nat→Bool) : ∀ (n lo : Nat) (l : List Nat),l.Pairwise (· < ·)→(∀ x∈l,lo≤x∧x<lo+n∧K x=true)→l.length≤chosen K lo n
 | 0,lo,l,_,hm=>by
  cases l with
  | nil=>exact Nat.zero_le _
  | cons x l=>have:=hm x (List.mem_cons_self ..);omega
 | n+1,lo,[],_,_=>Nat.zero_le _
 | n+1,lo,x::l,hp,hm=>by
  rw [List.pairwise_cons] at hp
  rw [chosen_succ]
  have hx:=hm x (List.mem_cons_self ..)
  by_cases e:x=lo
  ·subst e
   have:=rising_le K n (x+1) l hp.2 (fun y hy=>by have h1:=hp.1 y hy;have h2:=hm y (List.mem_cons_of_mem _ hy);exact⟨by omega,by omega,h2.2.2⟩)
   rw [if_pos hx.2.2,List.length_cons];omega
  ·have:=rising_le K n (lo+1) (x::l) (List.pairwise_cons.2 hp) (fun y hy=>by
    have h2:=hm y hy
    rcases List.mem_cons.1 hy with rfl|h
    ·exact⟨by omega,by omega,h2.2.2⟩
    ·have:=hp.1 y h;exact⟨by omega,by omega,h2.2.2⟩)
   omega
theorem rising_full (K : Nat→Bool) : ∀ (n lo : Nat) (l : List Nat),l.Pairwise (· < ·)→(∀ x∈l,lo≤x∧x<lo+n∧K x=true)→chosen K lo n≤l.length→∀ i,lo≤i→i<lo+n→K i=true→i∈l
 | 0,lo,l,_,_,_,i,h0,h1,_=>by omega
 | n+1,lo,l,hp,hm,hle,i,h0,h1,hk=>by
  rw [chosen_succ] at hle
  match l,hp,hm,hle with
  | [],_,hm,hle =>
   by_cases e:i=lo
   ·subst e;rw [if_pos hk] at hle;simp at hle
   ·have:=rising_full K n (lo+1) [] List.Pairwise.nil (fun x hx=>by cases hx) (by simp at hle ⊢;omega) i (by omega) (by omega) hk
    exact this
  | x::l,hp,hm,hle =>
   rw [List.pairwise_cons] at hp
   have hx:=hm x (List.mem_cons_self ..)
   by_cases e:x=lo
   ·subst e
    rw [if_pos hx.2.2,List.length_cons] at hle
    by_cases ei:i=x
    ·subst ei;exact List.mem_cons_self ..
    ·exact List.mem_cons_of_mem _ (rising_full K n (x+1) l hp.2 (fun y hy=>by have h1:=hp.1 y hy;have h2:=hm y (List.mem_cons_of_mem _ hy);exact⟨by omega,by omega,h2.2.2⟩) (by omega) i (by omega) (by omega) hk)
   ·have hall:∀ y∈x::l,lo+1≤y∧y<lo+1+n∧K y=true:=fun y hy=>by
     have h2:=hm y hy
     rcases List.mem_cons.1 hy with rfl|h
     ·exact⟨by omega,by omega,h2.2.2⟩
     ·have:=hp.1 y h;exact⟨by omega,by omega,h2.2.2⟩
    have hle2:=rising_le K n (lo+1) (x::l) (List.pairwise_cons.2 hp) hall
    by_cases ei:i=lo
    ·subst ei;rw [if_pos hk] at hle;omega
    ·exact rising_full K n (lo+1) (x::l) (List.pairwise_cons.2 hp) hall (by split at hle<;>omega) i (by omega) (by omega) hk
structure QRow where
 s:ByteArray
 k:Nat
 o:List ByteArray
def zrow : QRow := ⟨⟨#[]⟩,0,[]⟩
def sideQ (d : Nat) (q : QRow) : List ByteArray := if q.k=d then q.o else [q.s]
def posQ (d : Nat) (rows : List QRow) (i : Nat) : Nat := ((rows.take i).flatMap (sideQ d)).length
theorem posQ_succ (d : Nat) (q : QRow) (rows : List QRow) (i : Nat) : posQ d (q::rows) (i+1)=(sideQ d q).length+posQ d rows i := by
 unfold posQ;rw [List.take_succ_cons,List.flatMap_cons,List.length_append]
theorem posQ_zero (d : Nat) (rows : List QRow) : posQ d rows 0=0 := by unfold posQ;simp
theorem side_inv (d : Nat) : ∀ (rows : List QRow) (j : Nat) (t : ByteArray),(rows.flatMap (sideQ d))[j]? = some t→∃ i q,rows[i]? = some q∧(q.k≠d∧j=posQ d rows i∧t=q.s∨t∈q.o)
 | [],j,t,h=>by simp at h
 | q::rows,j,t,h=>by
  rw [List.flatMap_cons] at h
  by_cases hj:j<(sideQ d q).length
  ·rw [List.getElem?_append_left hj] at h
   refine⟨0,q,rfl,?_⟩
   by_cases hk:q.k=d
   ·refine .inr ?_
    unfold sideQ at h
    rw [if_pos hk] at h
    exact List.mem_of_getElem? h
   ·unfold sideQ at h hj
    rw [if_neg hk] at h hj
    simp at hj
    subst hj
    simp at h
    exact .inl ⟨hk,(posQ_zero d _).symm,h.symm⟩
  ·rw [List.getElem?_append_right (by omega)] at h
   obtain⟨i,q',hq,g⟩:=side_inv d rows _ t h
   refine⟨i+1,q',by simpa using hq,?_⟩
   rcases g with ⟨h1,h2,h3⟩|g
   ·exact .inl ⟨h1,by rw [posQ_succ];omega,h3⟩
   ·exact .inr g
theorem rows_range (rows : List QRow) : rows=(List.range' 0 rows.length).map (fun i=>rows.getD i zrow) := by
 refine List.ext_getElem? (fun i=>?_)
 rw [List.getElem?_map]
 by_cases h:i<rows.length
 ·rw [List.getElem?_range' h,List.getElem?_eq_getElem h]
  simp [List.getD_eq_getElem?_getD,List.getElem?_eq_getElem h]
 ·rw [List.getElem?_eq_none (by omega),List.getElem?_eq_none (by simp;omega)];rfl
theorem filter_sub {g : Nat→ByteArray} {h : Nat→List ByteArray} {K : Nat→Bool} (hk : ∀ i,K i=true→h i=[g i]) : ∀ l : List Nat,((l.filter K).map g).Sublist (l.flatMap h)
 | []=>by simp
 | i::l=>by
  rw [List.flatMap_cons,List.filter_cons]
  by_cases hi:K i=true
  ·rw [if_pos hi,List.map_cons,hk i hi]
   exact (filter_sub hk l).cons_cons _
  ·rw [if_neg hi]
   exact List.Sublist.trans (filter_sub hk l) (List.sublist_append_right _ _)
def keptQ (d : Nat) (rows : List QRow) (i : Nat) : Bool := decide ((rows.getD i zrow).k≠d)
theorem kept_sub (d : Nat) (rows : List QRow) : ∃ c : List ByteArray,c.Sublist (rows.map (·.s))∧c.Sublist (rows.flatMap (sideQ d))∧c.length=chosen (keptQ d rows) 0 rows.length := by
 refine⟨((List.range' 0 rows.length).filter (keptQ d rows)).map (fun i=>(rows.getD i zrow).s),?_,?_,by rw [List.length_map];rfl⟩
 ·have e:rows.map (·.s)=(List.range' 0 rows.length).map (fun i=>(rows.getD i zrow).s):=by
   have:=congrArg (List.map (·.s)) (rows_range rows)
   rw [List.map_map] at this
   exact this
  rw [e]
  exact List.Sublist.map _ List.filter_sublist
 ·have e:rows.flatMap (sideQ d)=(List.range' 0 rows.length).flatMap (fun i=>sideQ d (rows.getD i zrow)):=by
   have:=congrArg (List.flatMap (sideQ d)) (rows_range rows)
   rw [List.flatMap_map] at this
   exact this
  rw [e]
  refine filter_sub (fun i hi=>?_) _
  unfold keptQ at hi
  unfold sideQ
  rw [if_neg (of_decide_eq_true hi)]
theorem side_pairs {d : Nat} {rows : List QRow} (nd : (rows.map (·.s)).Nodup) (ho : ∀ q∈rows,∀ t∈q.o,t∉rows.map (·.s)) {lp : List SP} (hm : Matched (rows.map (·.s)) (rows.flatMap (sideQ d)) lp) :
  ∀ p∈lp,∃ (i:Nat) (q:QRow),rows[i]? = some q∧q.k≠d∧p.f0=i∧p.f1=posQ d rows i:=by
 intro p hp
 obtain⟨h0,h1,h2,h3,h4⟩:=hm.chain.2 p hp
 obtain⟨s,e1,m1,f1⟩:=rd_map_ix (K:=kn2 (rows.map (·.s)) (rows.flatMap (sideQ d))) h0 h1
 obtain⟨t,e2,m2,f2⟩:=rd_map_ix (K:=kn2 (rows.map (·.s)) (rows.flatMap (sideQ d))) (B:=rows.flatMap (sideQ d)) h2 h3
 rw [f1,f2] at h4
 have hst:=ixK_inj (kn2_left _ _ s m1) h4
 obtain⟨i,q,g1,g2⟩:=side_inv d rows _ t e2
 rcases g2 with ⟨g2,g3,g4⟩|g2
 ·have hb:(rows.map (·.s))[i]? = some q.s:=by rw [List.getElem?_map,g1];rfl
  have hlt:p.f0.toNat<(rows.map (·.s)).length:=by omega
  have:=(List.getElem?_inj hlt nd).1 (e1.trans (by rw [hb,hst,g4]))
  exact⟨i,q,g1,g2,by omega,by omega⟩
 ·exact absurd (by rw [←hst];exact m1) (ho q (List.mem_of_getElem? g1) t g2)
theorem side_tab {d : Nat} {rows : List QRow} (nd : (rows.map (·.s)).Nodup) (ho : ∀ q∈rows,∀ t∈q.o,t∉rows.map (·.s)) {lp : List SP} (hm : Matched (rows.map (·.s)) (rows.flatMap (sideQ d)) lp) {i : Nat} {q : QRow} (hi : rows[i]? = some q) (hk : q.k≠d) :
  rd (tabB rows.length lp) (i:Int)=posQ d rows i:=by
 have hp:=side_pairs nd ho hm
 have hil:i<rows.length:=(List.getElem?_eq_some_iff.1 hi).1
 have hbl:(rows.map (·.s)).length=rows.length:=List.length_map _
 obtain⟨c,c1,c2,c3⟩:=kept_sub d rows
 have hlen:=Lcs.lcs_ge _ _ _ (List.Sublist.map (ixK (kn2 (rows.map (·.s)) (rows.flatMap (sideQ d)))) c1) (List.Sublist.map (ixK (kn2 (rows.map (·.s)) (rows.flatMap (sideQ d)))) c2)
 rw [List.length_map,c3,←hm.len] at hlen
 have hmem:i∈lp.map (fun p=>p.f0.toNat):=by
  refine rising_full (keptQ d rows) rows.length 0 _ ?_ ?_ (by rw [List.length_map];exact hlen) i (Nat.zero_le _) (by omega) ?_
  ·rw [List.pairwise_map]
   refine List.Pairwise.imp_of_mem (fun {a b} ha hb hr=>?_) hm.chain.1
   have:=(hm.chain.2 a ha).1
   have:=hr.1
   omega
  ·intro x hx
   obtain⟨p,hpm,rfl⟩:=List.mem_map.1 hx
   obtain⟨j,q',g1,g2,g3,g4⟩:=hp p hpm
   have:=(List.getElem?_eq_some_iff.1 g1).1
   have e:p.f0.toNat=j:=by omega
   rw [e]
   refine⟨Nat.zero_le _,by omega,?_⟩
   unfold keptQ
   rw [List.getD_eq_getElem?_getD,g1]
   exact decide_eq_true g2
  ·unfold keptQ
   rw [List.getD_eq_getElem?_getD,hi]
   exact decide_eq_true hk
 obtain⟨p,hpm,e⟩:=List.mem_map.1 hmem
 obtain⟨j,q',g1,g2,g3,g4⟩:=hp p hpm
 have hc:=hm.chain
 have ej:j=i:=by omega
 subst ej
 rw [hbl] at hc
 rw [tab_at (fun p hp=>⟨(hc.2 p hp).1,(hc.2 p hp).2.1⟩) hc.1 (by omega) (by omega),←g3,at_of_mem hc.1 hpm,g4]
theorem side_tab_inv {d : Nat} {rows : List QRow} (nd : (rows.map (·.s)).Nodup) (ho : ∀ q∈rows,∀ t∈q.o,t∉rows.map (·.s)) {lp : List SP} (hm : Matched (rows.map (·.s)) (rows.flatMap (sideQ d)) lp) {i : Nat} (hi : i<rows.length) (h : 0≤rd (tabB rows.length lp) (i : Int)) :
  ∃ q,rows[i]? = some q∧q.k≠d∧rd (tabB rows.length lp) (i:Int)=posQ d rows i:=by
 have hc:=hm.chain
 rw [List.length_map] at hc
 rw [tab_at (fun p hp=>⟨(hc.2 p hp).1,(hc.2 p hp).2.1⟩) hc.1 (by omega) (by omega)] at h ⊢
 obtain⟨p,hp,e1,e2⟩:=at_some (l:=lp) (i:=(i:Int)) (by omega)
 obtain⟨j,q,g1,g2,g3,g4⟩:=side_pairs nd ho hm p hp
 have:j=i:=by omega
 subst this
 exact⟨q,g1,g2,by rw [←e2,g4]⟩
theorem take_flat {α : Type} (f : α→List ByteArray) (l : List α) (i : Nat) : (l.flatMap f).take ((l.take i).flatMap f).length=(l.take i).flatMap f := by
 have h:l.flatMap f=(l.take i).flatMap f++(l.drop i).flatMap f:=by rw [←List.flatMap_append,List.take_append_drop]
 rw [h,List.take_left'];rfl
theorem drop_flat {α : Type} (f : α→List ByteArray) (l : List α) (i : Nat) : (l.flatMap f).drop ((l.take i).flatMap f).length=(l.drop i).flatMap f := by
 have h:l.flatMap f=(l.take i).flatMap f++(l.drop i).flatMap f:=by rw [←List.flatMap_append,List.take_append_drop]
 rw [h,List.drop_left'];rfl
theorem cut_flat (d : Nat) (rows : List QRow) {i j : Nat} (h : i≤j) : cutL' (posQ d rows i) (posQ d rows j) (rows.flatMap (sideQ d))=(cutL' i j rows).flatMap (sideQ d) := by
 unfold cutL' posQ
 rw [Int.toNat_natCast,Int.toNat_natCast,Int.toNat_natCast,Int.toNat_natCast,take_flat]
 have:=drop_flat (sideQ d) (rows.take j) i
 rw [List.take_take,Nat.min_eq_left h] at this
 exact this
theorem cut_map (rows : List QRow) (i j : Nat) : cutL' i j (rows.map (·.s))=(cutL' i j rows).map (·.s) := by
 unfold cutL';rw [←List.map_take,←List.map_drop]
def wantQ (q : QRow) : List ByteArray := if q.k=0 then [q.s] else q.o
theorem flat_same {l : List QRow} {d : Nat} (h : ∀ q∈l,q.k≠d) : l.flatMap (sideQ d)=l.map (·.s) := by
 induction l with
 | nil=>rfl
 | cons q l ih =>
  rw [List.flatMap_cons,List.map_cons,ih (fun x hx=>h x (List.mem_cons_of_mem _ hx))]
  unfold sideQ
  rw [if_neg (h q (List.mem_cons_self ..))];rfl
theorem flat_want {l : List QRow} {d : Nat} (hd : d≠0) (h : ∀ q∈l,q.k=d) : l.flatMap wantQ=l.flatMap (sideQ d) := by
 induction l with
 | nil=>rfl
 | cons q l ih =>
  have hq:=h q (List.mem_cons_self ..)
  rw [List.flatMap_cons,List.flatMap_cons,ih (fun x hx=>h x (List.mem_cons_of_mem _ hx))]
  unfold sideQ wantQ
  rw [if_pos hq,if_neg (by omega)]
theorem flat_none {l : List QRow} (h : ∀ q∈l,q.k=0) : l.flatMap wantQ=l.map (·.s) := by
 induction l with
 | nil=>rfl
 | cons q l ih =>
  rw [List.flatMap_cons,List.map_cons,ih (fun x hx=>h x (List.mem_cons_of_mem _ hx))]
  unfold wantQ
  rw [if_pos (h q (List.mem_cons_self ..))];rfl
theorem posQ_mono (d : Nat) (rows : List QRow) {i j : Nat} (h : i≤j) : posQ d rows i≤posQ d rows j := by
 have e:(rows.take j).take i=rows.take i:=by rw [List.take_take,Nat.min_eq_left h]
 have e2:rows.take j=rows.take i++(rows.take j).drop i:=by rw [←e,List.take_append_drop]
 unfold posQ
 rw [e2,List.flatMap_append,List.length_append];omega
theorem posQ_le (d : Nat) (rows : List QRow) (i : Nat) : posQ d rows i≤(rows.flatMap (sideQ d)).length := by
 have h:rows.flatMap (sideQ d)=(rows.take i).flatMap (sideQ d)++(rows.drop i).flatMap (sideQ d):=by rw [←List.flatMap_append,List.take_append_drop]
 unfold posQ
 rw [h,List.length_append];omega
theorem span_flat (d : Nat) (rows : List QRow) {i j : Nat} (h : i≤j) : spanL ⟨(posQ d rows i : Int),(posQ d rows j : Int)⟩ (rows.flatMap (sideQ d))=(cutL' i j rows).flatMap (sideQ d) := by
 have h1:=posQ_mono d rows h
 have h2:=posQ_le d rows j
 rw [spanL_in (by omega) (by omega) (by omega),cut_flat d rows h]
theorem apart_parts {st fv : Int} {g0 g1 g2 : ByteArray} {rows : List QRow} {c : SC} {i j : Nat} (hij : i≤j) (hj : j≤rows.length) (e1 : c.f1=⟨(i : Int),(j : Int)⟩) (e2 : c.f2=⟨(posQ 1 rows i : Int),(posQ 1 rows j : Int)⟩) (e3 : c.f3=⟨(posQ 2 rows i : Int),(posQ 2 rows j : Int)⟩)
  (hk:(c.f0=true∧∀ q∈cutL' (i:Int) (j:Int) rows,q.k=0)∨c.f0=false∧((∀ q∈cutL' (i:Int) (j:Int) rows,q.k=1)∨∀ q∈cutL' (i:Int) (j:Int) rows,q.k=2)) :
  partsR st fv g0 g1 g2 (rows.map (·.s)) (rows.flatMap (sideQ 1)) (rows.flatMap (sideQ 2)) c=[textR (catB ((spanL c.f1 rows).flatMap wantQ))]∧clsI c (rows.map (·.s)) (rows.flatMap (sideQ 1)) (rows.flatMap (sideQ 2))≠4:=by
 have s1:spanL c.f1 (rows.map (·.s))=(cutL' (i:Int) (j:Int) rows).map (·.s):=by rw [e1,spanL_in (by omega) (by omega) (by rw [List.length_map];omega),cut_map]
 have s2:spanL c.f2 (rows.flatMap (sideQ 1))=(cutL' (i:Int) (j:Int) rows).flatMap (sideQ 1):=by rw [e2,span_flat 1 rows hij]
 have s3:spanL c.f3 (rows.flatMap (sideQ 2))=(cutL' (i:Int) (j:Int) rows).flatMap (sideQ 2):=by rw [e3,span_flat 2 rows hij]
 have s4:spanL c.f1 rows=cutL' (i:Int) (j:Int) rows:=by rw [e1,spanL_in (by omega) (by omega) (by omega)]
 unfold partsR clsI
 rw [s1,s2,s3,s4]
 generalize cutL' (i:Int) (j:Int) rows=l at hk
 rcases hk with ⟨h0,hk⟩|⟨h0,hk|hk⟩
 ·rw [if_pos h0,flat_none hk]
  exact⟨by unfold pieceR;rw [if_pos rfl],by decide⟩
 ·have f2:l.flatMap (sideQ 2)=l.map (·.s):=flat_same (fun q hq=>by rw [hk q hq];decide)
  rw [if_neg (by rw [h0];simp),f2,flat_want (d:=1) (by decide) hk]
  by_cases h:l.map (·.s)=l.flatMap (sideQ 1)
  ·rw [if_pos h,←h];exact⟨rfl,by decide⟩
  ·rw [if_neg h,if_pos rfl];exact⟨rfl,by decide⟩
 ·have f1:l.flatMap (sideQ 1)=l.map (·.s):=flat_same (fun q hq=>by rw [hk q hq];decide)
  rw [if_neg (by rw [h0];simp),f1,flat_want (d:=2) (by decide) hk,if_pos rfl]
  exact⟨rfl,by decide⟩
theorem mem_cut {rows : List QRow} {i j : Nat} {q : QRow} (h : q∈cutL' (i : Int) (j : Int) rows) : ∃ t : Nat,i≤t∧t<j∧rows[t]? = some q := by
 unfold cutL' at h
 rw [Int.toNat_natCast,Int.toNat_natCast] at h
 obtain⟨m,hm⟩:=List.getElem?_of_mem h
 rw [List.getElem?_drop] at hm
 by_cases hlt:i+m<j
 ·rw [List.getElem?_take_of_lt hlt] at hm;exact⟨i+m,by omega,hlt,hm⟩
 ·rw [List.getElem?_eq_none (by rw [List.length_take];omega)] at hm;cases hm
theorem posQ_step {d : Nat} {rows : List QRow} {i : Nat} {q : QRow} (h : rows[i]? = some q) (hk : q.k≠d) : posQ d rows (i+1)=posQ d rows i+1 := by
 unfold posQ
 rw [List.take_add_one,h,List.flatMap_append,List.length_append]
 simp [sideQ,if_neg hk]
theorem posQ_all (d : Nat) (rows : List QRow) : posQ d rows rows.length=(rows.flatMap (sideQ d)).length := by unfold posQ;rw [List.take_length]
def Apart (rows : List QRow) : Prop := (∀ q∈rows,q.k≤2)∧∀ (i : Nat) (q q' : QRow),rows[i]? = some q→rows[i+1]? = some q'→q.k+q'.k≠3
theorem apart_one {rows : List QRow} (ha : Apart rows) {i j : Nat} (hj : j≤rows.length) (h : ∀ (t : Nat) (q : QRow),i≤t→t<j→rows[t]? = some q→q.k≠0) : (∀ q∈cutL' (i : Int) (j : Int) rows,q.k=1)∨∀ q∈cutL' (i : Int) (j : Int) rows,q.k=2 := by
 by_cases hij:i<j
 ·have hi:rows[i]? = some rows[i]:=List.getElem?_eq_getElem (by omega)
  have key:∀ (m:Nat) (q:QRow),i+m<j→rows[i+m]? = some q→q.k=rows[i].k:=by
   intro m
   induction m with
   | zero=>intro q _ hq;rw [Nat.add_zero,hi] at hq;rw [Option.some.inj hq]
   | succ m ih =>
    intro q hm hq
    have hp:rows[i+m]? = some rows[i+m]:=List.getElem?_eq_getElem (by omega)
    have e:=ih _ (by omega) hp
    have a1:=ha.2 (i+m) _ q hp hq
    have a2:=h (i+m) _ (by omega) (by omega) hp
    have a3:=h (i+(m+1)) q (by omega) hm hq
    have a4:=ha.1 _ (List.mem_of_getElem? hp)
    have a5:=ha.1 q (List.mem_of_getElem? hq)
    omega
  have h0:=h i _ (Nat.le_refl _) hij hi
  have h2:=ha.1 _ (List.mem_of_getElem? hi)
  have all:∀ q∈cutL' (i:Int) (j:Int) rows,q.k=rows[i].k:=fun q hq=>by
   obtain⟨t,t0,t1,t2⟩:=mem_cut hq
   have et:i+(t-i)=t:=by omega
   exact key (t-i) q (by omega) (by rw [et];exact t2)
  by_cases h1:rows[i].k=1
  ·exact .inl (fun q hq=>(all q hq).trans h1)
  ·exact .inr (fun q hq=>(all q hq).trans (by omega))
 ·refine .inl (fun q hq=>?_)
  obtain⟨t,t0,t1,t2⟩:=mem_cut hq
  omega
def ChunkQ (rows : List QRow) (c : SC) : Prop := ∃ i j : Nat,i≤j∧j≤rows.length∧c.f1=⟨(i : Int),(j : Int)⟩∧c.f2=⟨(posQ 1 rows i : Int),(posQ 1 rows j : Int)⟩∧c.f3=⟨(posQ 2 rows i : Int),(posQ 2 rows j : Int)⟩ ∧
 ((c.f0=true∧∀ q∈cutL' (i:Int) (j:Int) rows,q.k=0)∨c.f0=false∧((∀ q∈cutL' (i:Int) (j:Int) rows,q.k=1)∨∀ q∈cutL' (i:Int) (j:Int) rows,q.k=2))
def TabQ (d : Nat) (rows : List QRow) (x : List Int) : Prop := (∀ (t : Nat) (q : QRow),rows[t]? = some q→q.k≠d→rd x t=posQ d rows t)∧∀ t : Nat,t<rows.length→0≤rd x t→∃ q,rows[t]? = some q∧q.k≠d∧rd x t=posQ d rows t
theorem apart_sweep {rows : List QRow} (ha : Apart rows) {x y : List Int} (hx : TabQ 1 rows x) (hy : TabQ 2 rows y) : ∀ {o a b : Int} {l : List SC},Sweep x y rows.length (rows.flatMap (sideQ 1)).length (rows.flatMap (sideQ 2)).length o a b l→∀ i : Nat,o=i→i≤rows.length→a=posQ 1 rows i→b=posQ 2 rows i→∀ c∈l,ChunkQ rows c := by
 intro o a b l h
 have nozero:∀ (i:Nat) (tn:Int),NextIs x y rows.length i (posQ 1 rows i) (posQ 2 rows i) tn→∀ (t:Nat) (q:QRow),i≤t→(t:Int)<tn→rows[t]? = some q→q.k≠0:=by
  intro i tn hn t q h0 h1 hq e
  have p1:=hx.1 t q hq (by omega)
  have p2:=hy.1 t q hq (by omega)
  have m1:=posQ_mono 1 rows h0
  have m2:=posQ_mono 2 rows h0
  rcases hn.2.2.1 t (by omega) h1 with g|g<;>omega
 induction h with
 | done=>intro i _ _ _ _ c hc;cases hc
 | stab h hs hp _ ih =>
  rename_i o a b n l _
  rintro i rfl hi rfl rfl c hc
  obtain⟨m,rfl⟩:∃ m:Nat,n=m:=⟨n.toNat,by omega⟩
  have zero:∀ (t:Nat),t<m→∃ q,rows[i+t]? = some q∧q.k=0∧(posQ 1 rows (i+t):Int)=posQ 1 rows i+t∧(posQ 2 rows (i+t):Int)=posQ 2 rows i+t:=by
   intro t ht
   obtain⟨g1,g2,g3⟩:=hs.2.1 t (by omega) (by omega)
   have et:(i:Int)+(t:Int)=((i+t:Nat):Int):=by omega
   rw [et] at g1 g2 g3
   obtain⟨q,k1,k2,k3⟩:=hx.2 (i+t) (by omega) (by omega)
   obtain⟨q',k4,k5,k6⟩:=hy.2 (i+t) (by omega) (by omega)
   rw [k1] at k4
   obtain rfl:=Option.some.inj k4
   have:=ha.1 q (List.mem_of_getElem? k1)
   exact⟨q,k1,by omega,by omega,by omega⟩
  obtain⟨q,z1,z2,z3,z4⟩:=zero (m-1) (by omega)
  have w1:=posQ_step (d:=1) z1 (by omega)
  have w2:=posQ_step (d:=2) z1 (by omega)
  have em:i+(m-1)+1=i+m:=by omega
  rw [em] at w1 w2
  have hlt:=(List.getElem?_eq_some_iff.1 z1).1
  rcases List.mem_cons.1 hc with rfl|hc
  ·refine⟨i,i+m,by omega,by omega,by unfold chunkC;congr 1,by unfold chunkC;simp only;congr 1;omega,by unfold chunkC;simp only;congr 1;omega,.inl ⟨decide_eq_true hp,fun q' hq=>?_⟩⟩
   obtain⟨t,t0,t1,t2⟩:=mem_cut hq
   obtain⟨q'',y1,y2,_⟩:=zero (t-i) (by omega)
   have et:i+(t-i)=t:=by omega
   rw [et,t2] at y1
   rw [Option.some.inj y1];exact y2
  ·exact ih (i+m) (by omega) (by omega) (by omega) (by omega) c hc
 | next h hs hn hb _ ih =>
  rename_i o a b tn l _
  rintro i rfl hi rfl rfl c hc
  obtain⟨j,rfl⟩:∃ j:Nat,tn=j:=⟨tn.toNat,by have:=hn.1;omega⟩
  have hij:=hn.1
  obtain⟨g1,g2⟩:=hn.2.2.2 hb
  obtain⟨q,k1,k2,k3⟩:=hx.2 j (by omega) (by omega)
  obtain⟨q',k4,k5,k6⟩:=hy.2 j (by omega) (by omega)
  rcases List.mem_cons.1 hc with rfl|hc
  ·exact⟨i,j,by omega,by omega,rfl,by unfold chunkC;simp only;rw [k3],by unfold chunkC;simp only;rw [k6],.inr ⟨rfl,apart_one ha (by omega) (fun t q h0 h1 hq=>nozero i j hn t q h0 (by omega) hq)⟩⟩
  ·exact ih j rfl (by omega) k3 k6 c hc
 | last h hs hn _ ih =>
  rename_i o a b l _
  rintro i rfl hi rfl rfl c hc
  rcases List.mem_cons.1 hc with rfl|hc
  ·exact⟨i,rows.length,hi,Nat.le_refl _,rfl,by rw [posQ_all];rfl,by rw [posQ_all];rfl,.inr ⟨rfl,apart_one ha (Nat.le_refl _) (fun t q h0 h1 hq=>nozero i rows.length hn t q h0 (by omega) hq)⟩⟩
  ·exact ih rows.length rfl (Nat.le_refl _) (by rw [posQ_all]) (by rw [posQ_all]) c hc
theorem steps_rows {α : Type} {x y : List Int} {left right : Int} (B : List α) : ∀ {o a b : Int} {cs : List SC},Steps x y B.length left right o a b cs→cs.flatMap (fun c=>spanL c.f1 B)=cutL' o B.length B := by
 intro o a b cs h
 induction h with
 | done=>unfold cutL';simp
 | cons h0 h1 h2 hc _ ih =>
  have l1:=hc.le1
  rw [List.flatMap_cons,ih,hc.sp1,spanL_in h0 l1.1 l1.2]
  exact cut_join h0 l1.1 l1.2 (by omega)
theorem apart_want {rows : List QRow} {x y : List Int} {left right : Int} {cs : List SC} (h : Steps x y rows.length left right 0 0 0 cs) : cs.flatMap (fun c=>(spanL c.f1 rows).flatMap wantQ)=rows.flatMap wantQ := by
 have e:=steps_rows rows h
 rw [cut_all] at e
 rw [←e,List.flatMap_assoc]
 rw [e]
theorem apart_merged {rows : List QRow} (ha : Apart rows) (nd : (rows.map (·.s)).Nodup) (ho : ∀ q∈rows,∀ t∈q.o,t∉rows.map (·.s)) {lp rp : List SP} {cs : List SC} (hm : Merged (rows.map (·.s)) (rows.flatMap (sideQ 1)) (rows.flatMap (sideQ 2)) lp rp cs) (st fv : Int) (g0 g1 g2 : ByteArray) :
  cs.flatMap (fun c=>(spanL c.f1 rows).flatMap wantQ)=rows.flatMap wantQ∧∀ c∈cs,partsR st fv g0 g1 g2 (rows.map (·.s)) (rows.flatMap (sideQ 1)) (rows.flatMap (sideQ 2)) c=[textR (catB ((spanL c.f1 rows).flatMap wantQ))]∧clsI c (rows.map (·.s)) (rows.flatMap (sideQ 1)) (rows.flatMap (sideQ 2))≠4:=by
 have hx:TabQ 1 rows (tabB rows.length lp):=⟨fun t q h hk=>side_tab nd ho hm.ml h hk,fun t ht h=>side_tab_inv nd ho hm.ml ht h⟩
 have hy:TabQ 2 rows (tabB rows.length rp):=⟨fun t q h hk=>side_tab nd ho hm.mr h hk,fun t ht h=>side_tab_inv nd ho hm.mr ht h⟩
 have hs:=hm.steps
 have hw:=hm.sw
 rw [List.length_map] at hs hw
 refine⟨apart_want hs,fun c hc=>?_⟩
 obtain⟨i,j,hij,hj,e1,e2,e3,hk⟩:=apart_sweep ha hx hy hw 0 rfl (Nat.zero_le _) (by rw [posQ_zero];rfl) (by rw [posQ_zero];rfl) c hc
 exact apart_parts hij hj e1 e2 e3 hk
theorem widthB_ge {wd : Int} {a b c : ByteArray} : wd≤widthB wd a b c := by
 unfold widthB
 rcases mx_cases wd (mx (mx (textRun a) (textRun b)) (textRun c)+1) with f|f<;>omega
theorem ev_apart {rows : List QRow} {g0 g1 g2 : ByteArray} {st wd fv : Int} (ok : Okay g0 g1 g2 st wd fv) (ha : Apart rows) (nd : (rows.map (·.s)).Nodup) (ho : ∀ q∈rows,∀ t∈q.o,t∉rows.map (·.s))
  (wB:wholeP (rows.map (·.s))=true) (wL:wholeP (rows.flatMap (sideQ 1))=true) (wR:wholeP (rows.flatMap (sideQ 2))=true) (wW:wholeP (rows.flatMap wantQ)=true) (hr:∀ s∈rows.flatMap wantQ,runI s≤6)
  (sB:(catB (rows.map (·.s))).size≤10000000) (sL:(catB (rows.flatMap (sideQ 1))).size≤10000000) (sR:(catB (rows.flatMap (sideQ 2))).size≤10000000) (sW:(catB (rows.flatMap wantQ)).size≤10000000) :
  ∃ d lp rp cs,cs.length≤20000001∧Ev (fun k=>textsF k (catB (rows.map (·.s))) (catB (rows.flatMap (sideQ 1))) (catB (rows.flatMap (sideQ 2))) g0 g1 g2 st wd fv) (d,lp,rp,cs,catB (rows.flatMap wantQ),widthB wd (catB (rows.map (·.s))) (catB (rows.flatMap (sideQ 1))) (catB (rows.flatMap (sideQ 2))),0,0):=by
 obtain⟨lp,rp,cs,h⟩:=merged_of (catB (rows.map (·.s))) (catB (rows.flatMap (sideQ 1))) (catB (rows.flatMap (sideQ 2))) (by omega) (by omega) (by omega)
 have q1:=(chunk_count h.steps).1
 have q2:=splitB_length (catB (rows.map (·.s)))
 have h':=h
 rw [split_cat _ wB,split_cat _ wL,split_cat _ wR] at h'
 obtain⟨m1,m2⟩:=apart_merged ha nd ho h' st fv g0 g1 g2
 have hrun:textRun (catB (rows.flatMap wantQ))≤6:=by
  unfold textRun
  rw [split_cat _ wW]
  exact (longI_bound 6 _ 0 (by omega) hr).2
 have hge:=widthB_ge (wd:=wd) (a:=catB (rows.map (·.s))) (b:=catB (rows.flatMap (sideQ 1))) (c:=catB (rows.flatMap (sideQ 2)))
 have hw:=ok.wid
 obtain⟨d,hd⟩:=ev_texts_one (t:=catB (rows.flatMap wantQ)) ok h (by omega) (fun c=>(spanL c.f1 rows).flatMap wantQ) (by rw [split_cat _ wB,split_cat _ wL,split_cat _ wR];exact m2) (by rw [m1]) (by omega) (by omega)
 exact⟨d,lp,rp,cs,by omega,hd⟩
end Go.Proofs.Ytfiamddinkokbaa.F
end
