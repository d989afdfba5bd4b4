/- Texts joined into one file (wip/tools/pack.py): PureNum, PureTexts, PureSames, SamesWalk, EqChunk, SidesWalk -/
import Derived.Test.YtfiamddinkokbaaTA41
import Derived.Test.YtfiamddinkokbaaTA29
import Derived.Test.YtfiamddinkokbaaTA40
import Derived.Test.YtfiamddinkokbaaTA32
import Derived.Test.YtfiamddinkokbaaTA33
import Derived.Test.YtfiamddinkokbaaTA34
import Derived.Test.YtfiamddinkokbaaTA35
import Derived.Test.YtfiamddinkokbaaTA17
import Derived.Test.YtfiamddinkokbaaTA19
import Derived.BigQuiet
import Derived.Test.YtfiamddinkokbaaTA3
set_option linter.unusedVariables false
set_option linter.unusedSimpArgs false
section
namespace Go.Proofs.Ytfiamddinkokbaa.F
open Go.RowKit Go.Shelf Go.Proofs.YtfiamddinkokbaaW.PrintWords
def ixK (K : List (List UInt8)) (s : ByteArray) : Int := (K.idxOf s.data.toList : Nat)
theorem numStep_pre (K : List (List UInt8)) (s : ByteArray) : K <+: numStep K s := by unfold numStep;split;exact List.prefix_refl _;exact List.prefix_append _ _
theorem numStep_mem (K : List (List UInt8)) (s : ByteArray) : s.data.toList∈numStep K s := by unfold numStep;split;assumption;simp
theorem knRow_pre : ∀ (l : List ByteArray) (K : List (List UInt8)),K <+: knRow K l
 | [],K=>List.prefix_refl _
 | s::l,K=>(numStep_pre K s).trans (knRow_pre l (numStep K s))
theorem knRow_mem : ∀ (l : List ByteArray) (K : List (List UInt8)),∀ s∈l,s.data.toList∈knRow K l
 | t::l,K,s,hs=>by
  rcases List.mem_cons.1 hs with rfl|hs
  ·exact (knRow_pre l (numStep K s)).subset (numStep_mem K s)
  ·exact knRow_mem l (numStep K t) s hs
theorem idx_pre {K K' : List (List UInt8)} (h : K <+: K') {s : List UInt8} (hs : s∈K) : K'.idxOf s=K.idxOf s := by
 obtain⟨t,rfl⟩:=h
 rw [List.idxOf_append,if_pos hs]
theorem numOf_step (K : List (List UInt8)) (s : ByteArray) : numOf K s=ixK (numStep K s) s := by
 unfold numOf ixK numStep
 split
 ·rfl
 ·rename_i h
  rw [List.idxOf_append,if_neg h,List.idxOf_eq_length h];simp
theorem numRow_map : ∀ (l : List ByteArray) (K K' : List (List UInt8)),knRow K l <+: K'→numRow K l=l.map (ixK K')
 | [],K,K',h=>rfl
 | s::l,K,K',h=>by
  rw [numRow,List.map_cons,numRow_map l (numStep K s) K' h,numOf_step]
  congr 1
  unfold ixK
  rw [idx_pre ((knRow_pre l (numStep K s)).trans h) (numStep_mem K s)]
def kn2 (B L : List ByteArray) : List (List UInt8) := knRow (knRow [] B) L
theorem number_two (B L : List ByteArray) : numberB [B,L]=[B.map (ixK (kn2 B L)),L.map (ixK (kn2 B L))] := by
 unfold numberB
 rw [numAll,numAll,numAll,numRow_map B [] (kn2 B L) (knRow_pre L _),numRow_map L (knRow [] B) (kn2 B L) (List.prefix_refl _)]
theorem kn2_left (B L : List ByteArray) : ∀ s∈B,s.data.toList∈kn2 B L := fun s hs=>(knRow_pre L _).subset (knRow_mem B [] s hs)
theorem ixK_inj {K : List (List UInt8)} {s t : ByteArray} (hs : s.data.toList∈K) (h : ixK K s=ixK K t) : s=t := by
 unfold ixK at h
 have h':K.idxOf s.data.toList=K.idxOf t.data.toList:=by omega
 have ht:t.data.toList∈K:=by
  have:=List.idxOf_lt_length_of_mem hs
  rw [h'] at this
  exact List.idxOf_lt_length_iff.1 this
 have e1:=List.getElem_idxOf (List.idxOf_lt_length_of_mem hs)
 have e2:=List.getElem_idxOf (List.idxOf_lt_length_of_mem ht)
 apply bytes_ext
 rw [←e1,←e2]
 simp only [h']
theorem rd_map_ix {K : List (List UInt8)} {B : List ByteArray} {i : Int} (h0 : 0≤i) (h1 : i<B.length) : ∃ s,B[i.toNat]? = some s∧s∈B∧rd (B.map (ixK K)) i=ixK K s := by
 have hi:i.toNat<B.length:=by omega
 refine⟨B[i.toNat],List.getElem?_eq_getElem hi,List.getElem_mem hi,?_⟩
 unfold rd
 rw [List.getD_eq_getElem?_getD,List.getElem?_map,List.getElem?_eq_getElem hi];rfl
structure Matched (B L : List ByteArray) (lp : List SP) : Prop where
 eq:merge_match.f B L=some lp
 chain:Chain (B.map (ixK (kn2 B L))) (L.map (ixK (kn2 B L))) 0 B.length 0 L.length lp
 len:lp.length=Lcs.lcs (B.map (ixK (kn2 B L))) (L.map (ixK (kn2 B L)))
 lele:lp.length≤B.length
 tab:TabOf (tabB B.length lp) B L
theorem matched_ex (B L : List ByteArray) (hB : B.length≤1000000000) (hL : L.length≤1000000000) (sB : ∀ s∈B,s.size≤4000000000) (sL : ∀ s∈L,s.size≤4000000000) : ∃ lp,Matched B L lp := by
 obtain⟨lp,h1,h2,h3⟩:=match_law (B.map (ixK (kn2 B L))) (L.map (ixK (kn2 B L))) (by rw [List.length_map];omega) (by rw [List.length_map];omega)
 have h4:=Lcs.lcs_le_left (B.map (ixK (kn2 B L))) (L.map (ixK (kn2 B L)))
 rw [List.length_map,List.length_map] at h2
 rw [List.length_map] at h4
 refine⟨lp,?_,h2,h3,by omega,?_,?_⟩
 ·unfold merge_match.f lines_Number.f
  have hcond:(∀ f∈[B,L],∀ s∈f,s.size≤4000000000)∧total [B,L]≤4000000000∧[B,L].length≤4000000000:=by
   refine⟨fun f hf=>?_,by unfold total;simp;omega,by simp⟩
   simp only [List.mem_cons,List.not_mem_nil,or_false] at hf
   rcases hf with rfl|rfl
   ·exact sB
   ·exact sL
  rw [if_pos hcond,Option.bind_some,number_two,if_pos (by simp),if_pos (by simp)]
  show (lcs_Match.f (B.map (ixK (kn2 B L))) (L.map (ixK (kn2 B L)))).bind _=_
  unfold lcs_Match.f
  rw [if_pos ⟨by rw [List.length_map];omega,by rw [List.length_map];omega⟩,h1,Option.bind_some,if_pos (by omega)];rfl
 ·have:=tab_chain (a:=B.map (ixK (kn2 B L))) (b:=L.map (ixK (kn2 B L))) (l:=lp) (by rw [List.length_map,List.length_map];exact h2)
  rwa [List.length_map,List.length_map] at this
 ·intro i h0 hi hr
  have hs:=tab_same (a:=B.map (ixK (kn2 B L))) (b:=L.map (ixK (kn2 B L))) (l:=lp) (by rw [List.length_map,List.length_map];exact h2) h0 (by rw [List.length_map];exact hi) (by rw [List.length_map];exact hr)
  rw [List.length_map] at hs
  have ht:=tab_chain (a:=B.map (ixK (kn2 B L))) (b:=L.map (ixK (kn2 B L))) (l:=lp) (by rw [List.length_map,List.length_map];exact h2)
  rw [List.length_map,List.length_map] at ht
  obtain⟨s,e1,m1,f1⟩:=rd_map_ix (K:=kn2 B L) h0 hi
  obtain⟨t,e2,m2,f2⟩:=rd_map_ix (K:=kn2 B L) (B:=L) hr (ht.rng i h0 hi).2
  rw [f1,f2] at hs
  rw [e1,e2,ixK_inj (kn2_left B L s m1) hs]
theorem Matched.rises {B L : List ByteArray} {lp : List SP} (h : Matched B L lp) : Rises B.length L.length lp := ⟨h.chain.1,fun p hp=>by have := h.chain.2 p hp;omega⟩
structure Merged (B L R : List ByteArray) (lp rp : List SP) (cs : List SC) : Prop where
 ml:Matched B L lp
 mr:Matched B R rp
 sw:Sweep (tabB B.length lp) (tabB B.length rp) B.length L.length R.length 0 0 0 cs
theorem Merged.steps {B L R : List ByteArray} {lp rp : List SP} {cs : List SC} (h : Merged B L R lp rp cs) : Steps (tabB B.length lp) (tabB B.length rp) B.length L.length R.length 0 0 0 cs :=
 steps_of h.ml.tab.1 h.mr.tab.1 h.sw (by omega) (by omega) (by omega) (by omega) (by omega) (by omega)
theorem merged_ex (B L R : List ByteArray) (hB : B.length≤1000000000) (hL : L.length≤1000000000) (hR : R.length≤1000000000) (sB : ∀ s∈B,s.size≤4000000000) (sL : ∀ s∈L,s.size≤4000000000) (sR : ∀ s∈R,s.size≤4000000000) : ∃ lp rp cs,Merged B L R lp rp cs := by
 obtain⟨lp,h1⟩:=matched_ex B L hB hL sB sL
 obtain⟨rp,h2⟩:=matched_ex B R hB hR sB sR
 obtain⟨cs,h3⟩:=sweep_ex h1.tab.1 h2.tab.1 (B.length+L.length+R.length) 0 0 0 (by omega) (by omega) (by omega) (by omega) (by omega) (by omega) (by omega)
 exact⟨lp,rp,cs,h1,h2,h3⟩
theorem chunk_count {x y : List Int} {base left right : Int} : ∀ {o a b : Int} {l : List SC},Steps x y base left right o a b l→(l.length : Int)≤2*(base-o)+1∧(Tog x y base o a b 0→(l.length : Int)≤2*(base-o)) := by
 intro o a b l h
 induction h with
 | done=>exact⟨by simp,fun _=>by simp⟩
 | cons h0 h1 h2 hc hl ih =>
  rename_i o a b o' a' b' c l
  have l1:=hc.le1
  simp only [List.length_cons]
  cases hf:c.f0 with
  | true =>
   have:=hc.st hf
   exact⟨by omega,fun _=>by omega⟩
  | false =>
   have hun:=hc.un hf
   refine⟨?_,fun ht=>absurd ht hun⟩
   rcases hc.nx hf with ⟨rfl,rfl,rfl⟩|g
   ·have:l=[]:=by
     cases hl with
     | done=>rfl
     | cons k0 k1 k2 kc _ =>
      have:=kc.le1
      have:=kc.le2
      have:=kc.le3
      have:=kc.some
      omega
    subst this
    simp
    omega
   ·have:=ih.2 g
    omega
theorem catB_cons (s : ByteArray) (l : List ByteArray) : (catB (s::l)).size=s.size+(catB l).size := by
 unfold catB
 rw [size_toB,size_toB,List.flatMap_cons,List.length_append,size_data]
theorem catB_sub {l l' : List ByteArray} (h : l.Sublist l') : (catB l).size≤(catB l').size := by
 induction h with
 | slnil=>exact Nat.le_refl _
 | cons s _ ih=>rw [catB_cons];omega
 | cons_cons s _ ih=>rw [catB_cons,catB_cons];omega
theorem catB_take_drop (l : List ByteArray) (n : Nat) : (catB (l.take n)).size+(catB (l.drop n)).size=(catB l).size := by
 conv=>rhs;rw [←List.take_append_drop n l,catB_append,ByteArray.size_append]
theorem textPs_eq (l : List ByteArray) (hn : l.length≤4000000000) (hs : (catB l).size≤4000000000) : textPs l=some ([textR (catB l)].map to106) := by
 unfold textPs
 rw [lines_join l hn hs];rfl
theorem hoist_le (st : Int) (l r : List ByteArray) : hoistN st l r+hoistM st l r≤l.length∧hoistN st l r+hoistM st l r≤r.length := ho_le st l r
theorem piece_eq (st fv : Int) (g0 g1 g2 : ByteArray) (k : Int) (b l r : List ByteArray) (nb : b.length≤1000000000) (nl : l.length≤1000000000) (nr : r.length≤1000000000) (sb : (catB b).size≤4000000000) (sl : (catB l).size≤4000000000) (sr : (catB r).size≤4000000000) :
  piecePs st fv g0 g1 g2 k b l r=some ((pieceR st fv g0 g1 g2 k b l r).map to106):=by
 unfold piecePs pieceR
 by_cases k0:k=0
 ·rw [if_pos k0,if_pos k0];exact textPs_eq b (by omega) sb
 rw [if_neg k0,if_neg k0]
 by_cases k1:k=1∨k=3∨(k=4∧fv=1)
 ·rw [if_pos k1,if_pos k1];exact textPs_eq l (by omega) sl
 rw [if_neg k1,if_neg k1]
 by_cases k2:k=2∨fv=3
 ·rw [if_pos k2,if_pos k2];exact textPs_eq r (by omega) sr
 rw [if_neg k2,if_neg k2]
 unfold confPs
 have s1:=catB_sub (List.take_sublist (hoN st l r) l)
 have s2:=catB_sub (List.drop_sublist (l.length-hoM st l r) l)
 have s3:=catB_sub ((List.drop_sublist (hoN st l r) (l.take (l.length-hoM st l r))).trans (List.take_sublist _ l))
 have s4:=catB_sub ((List.drop_sublist (hoN st l r) (r.take (r.length-hoM st l r))).trans (List.take_sublist _ r))
 rw [if_pos ⟨by omega,by omega⟩,lines_join _ (by rw [List.length_take];omega) (by omega),Option.bind_some]
 rw [lines_join (midS l (hoN st l r) (hoM st l r)) (by unfold midS;rw [List.length_drop,List.length_take];omega) (by unfold midS;omega),Option.bind_some]
 rw [lines_join (midS r (hoN st l r) (hoM st l r)) (by unfold midS;rw [List.length_drop,List.length_take];omega) (by unfold midS;omega),Option.bind_some]
 by_cases hst:st=0
 ·rw [if_pos hst,Option.bind_some,lines_join _ (by rw [List.length_drop];omega) (by omega),Option.bind_some]
  subst hst;rfl
 ·rw [if_neg hst,lines_join b (by omega) sb,Option.bind_some,lines_join _ (by rw [List.length_drop];omega) (by omega),Option.bind_some]
  unfold hunkR hunkP
  rw [if_neg hst,if_neg hst]
  simp only [List.map_cons,List.map_nil,to106]
  rfl
theorem span_sub {α : Type} (s : SSp) (l : List α) : (spanL s l).Sublist l := by
 unfold spanL
 split
 ·exact List.nil_sublist _
 ·exact (List.drop_sublist _ _).trans (List.take_sublist _ _)
theorem ev_docL (B L R : List ByteArray) (st fv : Int) (g0 g1 g2 : ByteArray) (nB : B.length≤1000000000) (nL : L.length≤1000000000) (nR : R.length≤1000000000) (sB : (catB B).size≤4000000000) (sL : (catB L).size≤4000000000) (sR : (catB R).size≤4000000000) :
  ∀ (cs:List SC) (acc:List RP),acc.length+3*cs.length≤1000000000→Ev (fun k=>docL k B L R st fv g0 g1 g2 cs (acc.map to106)) ((acc++cs.flatMap (partsR st fv g0 g1 g2 B L R)).map to106)
 | [],acc,h=>by
  simp only [docL]
  exact Ev.val (by simp)
 | c::cs,acc,h=>by
  have h3:(partsR st fv g0 g1 g2 B L R c).length≤3:=by
   unfold partsR pieceR
   split
   ·simp
   ·split
    ·simp
    ·split<;>simp
  simp only [docL]
  simp only [List.length_cons] at h
  refine Ev.bind (ev_cut c B L R (by omega) (by omega) (by omega)) ?_
  have b1:=catB_sub (span_sub c.f1 B)
  have b2:=catB_sub (span_sub c.f2 L)
  have b3:=catB_sub (span_sub c.f3 R)
  have n1:=(span_sub c.f1 B).length_le
  have n2:=(span_sub c.f2 L).length_le
  have n3:=(span_sub c.f3 R).length_le
  have hpe:piecePs st fv g0 g1 g2 (clsI c B L R) (spanL c.f1 B) (spanL c.f2 L) (spanL c.f3 R)=some ((partsR st fv g0 g1 g2 B L R c).map to106):=piece_eq st fv g0 g1 g2 _ _ _ _ (by omega) (by omega) (by omega) (by omega) (by omega) (by omega)
  refine Ev.bind (a:=(partsR st fv g0 g1 g2 B L R c).map to106) (Ev.const hpe) ?_
  refine Ev.pos (by rw [List.length_map];omega) ?_
  rw [←List.map_append]
  refine (ev_docL B L R st fv g0 g1 g2 nB nL nR sB sL sR cs (acc++partsR st fv g0 g1 g2 B L R c) (by rw [List.length_append];omega)).cast ?_
  rw [List.flatMap_cons,List.append_assoc]
theorem textSum_append (a b : List RP) : textSum (a++b)=textSum a+textSum b := by unfold textSum;rw [List.map_append,List.sum_append]
theorem piece_sum (st fv : Int) (g0 g1 g2 : ByteArray) (k : Int) (b l r : List ByteArray) : textSum (pieceR st fv g0 g1 g2 k b l r)≤(catB b).size+(catB l).size+(catB r).size := by
 have one:∀ s:ByteArray,textSum [textR s]=s.size:=fun s=>by unfold textSum;simp [textR]
 unfold pieceR
 split
 ·rw [one];omega
 ·split
  ·rw [one];omega
  ·split
   ·rw [one];omega
   ·have h1:=hoist_le st l r
    have h2:=catB_take_drop l (hoistN st l r)
    have h3:(catB (l.drop (l.length-hoistM st l r))).size≤(catB (l.drop (hoistN st l r))).size:=catB_sub (by
     rw [show l.length-hoistM st l r=hoistN st l r+(l.length-hoistM st l r-hoistN st l r) by omega,←List.drop_drop]
     exact List.drop_sublist _ _)
    have e0:(⟨#[]⟩:ByteArray).size=0:=rfl
    unfold textSum
    simp [textR,hunkR]
    omega
theorem parts_sum (st fv : Int) (g0 g1 g2 : ByteArray) (B L R : List ByteArray) : ∀ cs : List SC,textSum (cs.flatMap (partsR st fv g0 g1 g2 B L R))≤(catB (cs.flatMap fun c=>spanL c.f1 B)).size+(catB (cs.flatMap fun c=>spanL c.f2 L)).size+(catB (cs.flatMap fun c=>spanL c.f3 R)).size
 | []=>by simp [textSum]
 | c::cs=>by
  rw [List.flatMap_cons,textSum_append,List.flatMap_cons,List.flatMap_cons,List.flatMap_cons,catB_append,catB_append,catB_append,ByteArray.size_append,ByteArray.size_append,ByteArray.size_append]
  have h1:=parts_sum st fv g0 g1 g2 B L R cs
  have h2:textSum (partsR st fv g0 g1 g2 B L R c)≤_:=piece_sum st fv g0 g1 g2 (clsI c B L R) (spanL c.f1 B) (spanL c.f2 L) (spanL c.f3 R)
  omega
theorem parts_len (st fv : Int) (g0 g1 g2 : ByteArray) (B L R : List ByteArray) : ∀ cs : List SC,(cs.flatMap (partsR st fv g0 g1 g2 B L R)).length≤3*cs.length
 | []=>by simp
 | c::cs=>by
  rw [List.flatMap_cons,List.length_append,List.length_cons]
  have h1:=parts_len st fv g0 g1 g2 B L R cs
  have h3:(partsR st fv g0 g1 g2 B L R c).length≤3:=by
   unfold partsR pieceR
   split
   ·simp
   ·split
    ·simp
    ·split<;>simp
  omega
structure Okay (g0 g1 g2 : ByteArray) (st wd fv : Int) : Prop where
 lab:lineless g0=false∧lineless g1=false∧lineless g2=false
 labs:g0.size+g1.size+g2.size≤1000000000
 sty:0≤st∧st≤2
 wid:7≤wd∧wd≤64
 fav:fv=0∨fv=1∨fv=3
theorem okay_plain {g0 g1 g2 : ByteArray} {st wd fv : Int} (h : Okay g0 g1 g2 st wd fv) : doc_Labels_Plain.f g0 g1 g2=some true := by
 rw [labels_plain g0 g1 g2 (by have:=h.labs;omega),h.lab.1,h.lab.2.1,h.lab.2.2];rfl
theorem ev_build {B L R : List ByteArray} {lp rp : List SP} {cs : List SC} {g0 g1 g2 : ByteArray} {st wd fv : Int} (ho : Okay g0 g1 g2 st wd fv) (h : Merged B L R lp rp cs) (nB : B.length≤100000000) (nL : L.length≤100000000) (nR : R.length≤100000000) (sB : (catB B).size≤1000000000) (sL : (catB L).size≤1000000000) (sR : (catB R).size≤1000000000) :
  Ev (fun k=>build_Doc.f k B L R cs st g0 g1 g2 fv) ((docB st fv g0 g1 g2 B L R cs).map to106,0):=by
 have hlen:=(chunk_count h.steps).1
 have hp:=parts_len st fv g0 g1 g2 B L R cs
 have hs:=parts_sum st fv g0 g1 g2 B L R cs
 obtain⟨q1,q2,q3⟩:=steps_spans h.steps
 rw [q1,q2,q3,cut_all,cut_all,cut_all] at hs
 unfold build_Doc.f docF
 refine Ev.neg (by have:=ho.sty;have:=ho.fav;omega) (Ev.bind (Ev.const (okay_plain ho)) (Ev.pos rfl (Ev.bind ((ev_docL B L R st fv g0 g1 g2 (by omega) (by omega) (by omega) (by omega) (by omega) (by omega) cs [] (by simp only [List.length_nil];omega))) (Ev.bind (ev_doc_of _ ?_ ?_) (Ev.val rfl)))))
 ·rw [List.nil_append];omega
 ·rw [List.nil_append];omega
theorem ev_wrong {g0 g1 g2 : ByteArray} {st wd fv n : Int} (ho : Okay g0 g1 g2 st wd fv) (hn : n≤1073741824) : Ev (fun k=>merge_Options_wrong.f k g0 g1 g2 st wd fv n) 0 := by
 have hw:=ho.wid
 unfold merge_Options_wrong.f
 refine Ev.neg (by omega) (Ev.bind (Ev.const (okay_plain ho)) (Ev.pos rfl (Ev.neg (by omega) (Ev.neg (by omega) (Ev.bind (a:=([],0)) ?_ (Ev.val rfl))))))
 unfold build_Doc.f docF
 refine Ev.neg (by have:=ho.sty;have:=ho.fav;omega) (Ev.bind (Ev.const (okay_plain ho)) (Ev.pos rfl (Ev.bind (a:=([]:List PP)) ?_ (Ev.bind (ev_doc_of [] (by simp) (by simp [textSum])) (Ev.val rfl)))))
 simp only [docL]
 exact Ev.val rfl
def widthB (wd : Int) (a b c : ByteArray) : Int := mx wd (mx (mx (textRun a) (textRun b)) (textRun c)+1)
theorem ev_width {wd : Int} {a b c : ByteArray} (sa : a.size≤1000000000) (sb : b.size≤1000000000) (sc : c.size≤1000000000) : Ev (fun k=>doc_Width.f k wd [a,b,c]) (widthB wd a b c) := by
 refine (ev_doc_width wd [a,b,c] (by simp) (fun s hs=>?_)).cast ?_
 ·simp only [List.mem_cons,List.not_mem_nil,or_false] at hs
  rcases hs with rfl|rfl|rfl<;>omega
 ·have h1:=textRun_bound a
  have h2:=textRun_bound b
  have h3:=textRun_bound c
  unfold widthB
  have e:runAll [a,b,c] 0=mx (mx (textRun a) (textRun b)) (textRun c):=by
   unfold runAll
   simp only [List.foldl_cons,List.foldl_nil]
   have:mx 0 (textRun a)=textRun a:=by rcases mx_cases 0 (textRun a) with h|h<;>omega
   rw [this]
  rw [e,wrap_in]
  ·rcases mx_cases (textRun a) (textRun b) with h|h<;>rcases mx_cases (mx (textRun a) (textRun b)) (textRun c) with g|g<;>omega
  ·rcases mx_cases (textRun a) (textRun b) with h|h<;>rcases mx_cases (mx (textRun a) (textRun b)) (textRun c) with g|g<;>omega
theorem ev_texts {a b c g0 g1 g2 : ByteArray} {st wd fv : Int} {lp rp : List SP} {cs : List SC} (ho : Okay g0 g1 g2 st wd fv) (h : Merged (splitB a) (splitB b) (splitB c) lp rp cs) (hs : a.size+b.size+c.size≤100000000)
  (hn:(docB st fv g0 g1 g2 (splitB a) (splitB b) (splitB c) cs).length≤2000) (hx:∀ x∈docB st fv g0 g1 g2 (splitB a) (splitB b) (splitB c) cs,sizesP x≤1000000000) :
  Ev (fun k=>textsF k a b c g0 g1 g2 st wd fv) ((docB st fv g0 g1 g2 (splitB a) (splitB b) (splitB c) cs).map to106,lp,rp,cs,(printP (docB st fv g0 g1 g2 (splitB a) (splitB b) (splitB c) cs) (widthB wd a b c)).1,widthB wd a b c,countB (splitB a) (splitB b) (splitB c) cs,0):=by
 have na:=splitB_length a
 have nb:=splitB_length b
 have nc:=splitB_length c
 have ca:(catB (splitB a)).size=a.size:=by rw [cat_split]
 have cb:(catB (splitB b)).size=b.size:=by rw [cat_split]
 have cc:(catB (splitB c)).size=c.size:=by rw [cat_split]
 have hlen:=(chunk_count h.steps).1
 have hof:=ev_chunk_of (nB:=(splitB a).length) (nL:=(splitB b).length) (nR:=(splitB c).length) (h.ml.rises) (h.mr.rises) h.ml.tab.1 h.mr.tab.1 (by omega) (by omega) (by omega) (by have:=h.ml.lele;omega) (by have:=h.mr.lele;omega) h.sw
 unfold textsF
 refine Ev.pos ⟨by omega,by omega,by omega⟩ (Ev.bind (ev_wrong ho (by omega)) (Ev.pos rfl (Ev.bind (Ev.const (lines_split a (by omega))) (Ev.bind (Ev.const (lines_split b (by omega))) (Ev.bind (Ev.const (lines_split c (by omega))) (Ev.bind (Ev.const h.ml.eq) (Ev.bind (Ev.const h.mr.eq) (Ev.bind (ev_width (by omega) (by omega) (by omega)) (Ev.bind hof
  (Ev.bind (ev_build ho h (by omega) (by omega) (by omega) (by omega) (by omega) (by omega)) (Ev.bind (ev_mark_print _ _ hn hx) (Ev.bind (ev_count _ _ _ (by omega) (by omega) (by omega) cs (by omega)) (Ev.val rfl)))))))))))))
theorem few_f (x y z : Int) (a b c : ByteArray) (ha : a.size≤140737488351232) (hb : b.size≤140737488351232) (hc : c.size≤140737488351232) : tripartitelaw12_few.f x y z a b c=some (decide (a.size+b.size+c.size≤500)) := by
 unfold tripartitelaw12_few.f
 rw [wrap_in (n:=(a.size:Int)+b.size) (by omega) (by omega),wrap_in (by omega) (by omega)]
 congr 1
 exact decide_eq_decide.2 (by omega)
theorem bare_in (a : ByteArray) (hs : a.size≤4000000000) : ∀ (rest done : List UInt8) (i : Int),a.data.toList=done++rest→i=done.length→(10 : UInt8)∉done→∃ s,s.size≤a.size∧lineless s=false∧Ev (fun k=>tripartitelaw12_bare.l0 k a i) s
 | [],done,i,hd,hi,hn=>by
  refine⟨a,Nat.le_refl _,?_,?_⟩
  ·rw [lineless_iff,hd,List.append_nil];exact decide_eq_false hn
  ·refine Ev.succ ?_
   simp only [tripartitelaw12_bare.l0]
   exact Ev.neg (by have:=size_data a;rw [hd] at this;simp at this;omega) (Ev.val rfl)
 | c::rest,done,i,hd,hi,hn=>by
  have hsz:a.size=done.length+(rest.length+1):=by rw [←size_data a,hd];simp
  have hw:wrap64 (i+1)=i+1:=wrap_in (by omega) (by omega)
  have hbt:=bytes_bt a i done rest c hd hi
  by_cases hc:c=10
  ·subst hc
   refine⟨a.extract 0 i.toNat,by rw [ByteArray.size_extract];omega,?_,?_⟩
   ·rw [lineless_iff,extract_data,hd,List.drop_zero,show i.toNat=done.length by omega,List.take_left']
    ·exact decide_eq_false hn
    ·rfl
   ·refine Ev.succ ?_
    simp only [tripartitelaw12_bare.l0,hbt]
    exact Ev.pos (by omega) (Ev.pos (by omega) (Ev.pos rfl (Ev.pos (by omega) (Ev.val rfl))))
  ·obtain⟨s,h1,h2,h3⟩:=bare_in a hs rest (done++[c]) (i+1) (by rw [hd];simp) (by simp;omega) (by simp [hn];exact fun e=>hc e.symm)
   refine⟨s,h1,h2,Ev.succ ?_⟩
   simp only [tripartitelaw12_bare.l0,hw,hbt]
   refine Ev.pos (by omega) (Ev.pos (by omega) (Ev.neg (fun e=>hc ?_) h3))
   exact UInt8.toNat_inj.1 (by rw [show (10:UInt8).toNat=10 from rfl];omega)
theorem ev_bare (a : ByteArray) (hs : a.size≤4000000000) : ∃ s,s.size≤a.size∧lineless s=false∧Ev (fun k=>tripartitelaw12_bare.f k a) s := bare_in a hs a.data.toList [] 0 rfl rfl (by simp)
theorem u64_nonneg (x : Int) : 0≤IntKind.u64.wrap x := by
 have:IntKind.u64.wrap x=x % 18446744073709551616:=rfl
 rw [this];omega
theorem count_none {B L R : List ByteArray} {cs : List SC} (h : ∀ c∈cs,clsI c B L R≠4) : countB B L R cs=0 := by
 unfold countB
 rw [List.filter_eq_nil_iff.2 (fun c hc=>by simpa using h c hc)];rfl
theorem widthB_le {wd : Int} {a b c : ByteArray} (hw : wd≤64) (hs : a.size+b.size+c.size≤100000000) : widthB wd a b c≤1073741824 := by
 have h1:=textRun_bound a
 have h2:=textRun_bound b
 have h3:=textRun_bound c
 unfold widthB
 rcases mx_cases (textRun a) (textRun b) with h|h<;>rcases mx_cases (mx (textRun a) (textRun b)) (textRun c) with g|g<;>rcases mx_cases wd (mx (mx (textRun a) (textRun b)) (textRun c)+1) with f|f<;>omega
theorem ev_texts_one {a b c g0 g1 g2 t : ByteArray} {st wd fv : Int} {lp rp : List SP} {cs : List SC} (ho : Okay g0 g1 g2 st wd fv) (h : Merged (splitB a) (splitB b) (splitB c) lp rp cs) (hs : a.size+b.size+c.size≤100000000) (g : SC→List ByteArray)
  (hg:∀ x∈cs,partsR st fv g0 g1 g2 (splitB a) (splitB b) (splitB c) x=[textR (catB (g x))]∧clsI x (splitB a) (splitB b) (splitB c)≠4) (ht:catB (cs.flatMap g)=t) (hts:t.size≤100000000) (hr:textRun t<widthB wd a b c) :
  ∃ d,Ev (fun k=>textsF k a b c g0 g1 g2 st wd fv) (d,lp,rp,cs,t,widthB wd a b c,0,0):=by
 have hd:=doc_texts g (fun x hx=>(hg x hx).1)
 rw [ht] at hd
 have hev:=ev_texts ho h hs (by rw [hd];split<;>simp) (by
  intro x hx
  rw [hd] at hx
  split at hx
  ·cases hx
  ·obtain rfl:=List.mem_singleton.1 hx
   have e0:(⟨#[]⟩:ByteArray).size=0:=rfl
   unfold sizesP textR
   simp only
   omega)
 rw [hd,print_text hr (widthB_le ho.wid.2 hs),count_none (fun c hc=>(hg c hc).2)] at hev
 exact⟨_,hev⟩
theorem merged_of (a b c : ByteArray) (ha : a.size≤100000000) (hb : b.size≤100000000) (hc : c.size≤100000000) : ∃ lp rp cs,Merged (splitB a) (splitB b) (splitB c) lp rp cs := by
 have h1:=splitB_length a
 have h2:=splitB_length b
 have h3:=splitB_length c
 exact merged_ex _ _ _ (by omega) (by omega) (by omega) (fun s hs=>by have:=splitB_mem a s hs;omega) (fun s hs=>by have:=splitB_mem b s hs;omega) (fun s hs=>by have:=splitB_mem c s hs;omega)
def Told8 (w : World) (t : ByteArray) (wd n ec : Int) (cs : List SC) (e : Ending) (w' : World) : Prop := ∃ (A0 A1 A2 A3 : Option Addr) (n0 c0 n1 c1 n2 c2 c3 : Nat),e = .returned (.tuple #[.agg #[.slice A0 n0 c0,.slice A1 n1 c1,.slice A2 n2 c2,.slice A3 cs.length c3,.string t,.int .i64 wd,.int .i64 n],.int .i64 ec])∧Kd.R k91 91 w' w.heap.size (fun _=>True) (.slice A3 cs.length c3) cs∧Below w.heap.size w w'
theorem texts_told {k : Nat} {a b c g0 g1 g2 : ByteArray} {st wd fv : Int} {d : List PP} {lp rp : List SP} {cs : List SC} {t : ByteArray} {W6 n ec : Int} (h : textsF k a b c g0 g1 g2 st wd fv=some (d,lp,rp,cs,t,W6,n,ec)) (w : World) :
  Calls Try.prog 58 #[.string a,.string b,.string c,.agg #[.string g0,.string g1,.string g2,.int .i64 st,.int .i64 wd,.int .i64 fv]] w (Told8 w t W6 n ec cs):=by
 refine (texts_calls k a b c g0 g1 g2 st wd fv d lp rp cs t W6 n ec w h).mono ?_
 rintro e w' ⟨v0,v1,v2,v3,rfl,h0,h1,h2,h3,hb⟩
 obtain⟨A0,c0,rfl⟩:=Kd.R_slice h0
 obtain⟨A1,c1,rfl⟩:=Kd.R_slice h1
 obtain⟨A2,c2,rfl⟩:=Kd.R_slice h2
 obtain⟨A3,c3,rfl⟩:=Kd.R_slice h3
 exact⟨A0,A1,A2,A3,_,c0,_,c1,_,c2,c3,rfl,h3,hb⟩
end Go.Proofs.Ytfiamddinkokbaa.F
end

section
namespace Go.Proofs.Ytfiamddinkokbaa.F
open Go.RowKit Go.Proofs.YtfiamddinkokbaaW.PrintWords Go.Proofs.YtfiamddinkokbaaW.PrintLast Go.Proofs.YtfiamddinkokbaaW.PrintMore
theorem eqA89 (d : Nat) (w : World) (x0 y0 : Int) (x1 y1 : Int) :
  (Op.equalIn (d+2) 89 (.agg #[.int .i64 x0,.int .i64 x1]) (.agg #[.int .i64 y0,.int .i64 y1])).run Try.prog w = .ok (x0==y0&&(x1==y1)) w:=by
 refine eqA_of Try.underlying89 (by kernel_rfl) ?_
 refine eqf_cons (by rfl) (by go_simp;rfl) (by go_simp;rfl) (by go_simp) ?_
 exact eqf_last (by rfl) (by go_simp;rfl) (by go_simp;rfl) (by go_simp)
theorem eqA91 (d : Nat) (w : World) (x0 y0 : Bool) (x1 y1 : Int) (x2 y2 : Int) (x3 y3 : Int) (x4 y4 : Int) (x5 y5 : Int) (x6 y6 : Int) :
  (Op.equalIn (d+3) 91 (.agg #[.bool x0,.int .i64 x1,.int .i64 x2,.int .i64 x3,.int .i64 x4,.int .i64 x5,.int .i64 x6]) (.agg #[.bool y0,.int .i64 y1,.int .i64 y2,.int .i64 y3,.int .i64 y4,.int .i64 y5,.int .i64 y6])).run Try.prog w = .ok (x0==y0&&((x1==y1&&(x2==y2))&&((x3==y3&&(x4==y4))&&((x5==y5&&(x6==y6)))))) w:=by
 refine eqA_of Try.underlying91 (by kernel_rfl) ?_
 refine eqf_cons (by rfl) (by go_simp;rfl) (by go_simp;rfl) (by go_simp) ?_
 refine eqf_cons (by rfl) (by go_simp) (by go_simp) (eqA89 (d+0) w _ _ _ _) ?_
 refine eqf_cons (by rfl) (by go_simp) (by go_simp) (eqA89 (d+0) w _ _ _ _) ?_
 exact eqf_last (by rfl) (by go_simp) (by go_simp) (eqA89 (d+0) w _ _ _ _)
end Go.Proofs.Ytfiamddinkokbaa.F
end

section
namespace Go.Proofs.Ytfiamddinkokbaa.F
open Go.RowKit Go.Shelf Go.Proofs.YtfiamddinkokbaaW.PrintWords
attribute [local go_sem high] eqA91
theorem alive_ex : ∃ k,tripartitetop_alive.f k=some true := ⟨60,by decide +kernel⟩
theorem alive_calls (W : World) : Calls Try.prog 56 #[] W fun e W'=>e = .returned (.bool true)∧Below W.heap.size W W' := by
 obtain⟨k,h⟩:=alive_ex
 exact tripartitetop_alive.calls k true W h
theorem fits_bool {st wd fv : Int} {g0 g1 g2 : ByteArray} (s0 : g0.size≤140737488351232) (s1 : g1.size≤140737488351232) (s2 : g2.size≤140737488351232) (W : World) :
  Calls Try.prog 55 #[.agg #[.int .i64 st,.int .i64 wd,.int .i64 fv,.string g0,.string g1,.string g2]] W fun e W'=>e = .returned (.bool (decide (g0.size+g1.size+g2.size≤500)))∧Below W.heap.size W W' :=
 tripartitetop_fits.calls st wd fv g0 g1 g2 _ W (few_f st wd fv g0 g1 g2 s0 s1 s2)
def ToldN (w : World) (t : ByteArray) (wd n ec : Int) (m : Nat) (cs : List SC) (e : Ending) (w' : World) : Prop := ∃ (A0 A1 A2 A3 : Option Addr) (n0 c0 n1 c1 n2 c2 c3 : Nat),e = .returned (.tuple #[.agg #[.slice A0 n0 c0,.slice A1 n1 c1,.slice A2 n2 c2,.slice A3 m c3,.string t,.int .i64 wd,.int .i64 n],.int .i64 ec])∧Kd.C k91 w' A3 m cs∧Below w.heap.size w w'
theorem texts_toldN {k : Nat} {a b c g0 g1 g2 : ByteArray} {st wd fv : Int} {d : List PP} {lp rp : List SP} {cs : List SC} {t : ByteArray} {W6 n ec : Int} {m : Nat} (h : textsF k a b c g0 g1 g2 st wd fv=some (d,lp,rp,cs,t,W6,n,ec)) (hm : cs.length=m) (w : World) :
  Calls Try.prog 58 #[.string a,.string b,.string c,.agg #[.string g0,.string g1,.string g2,.int .i64 st,.int .i64 wd,.int .i64 fv]] w (ToldN w t W6 n ec m cs):=by
 subst hm
 refine (texts_told h w).mono ?_
 rintro e w' ⟨A0,A1,A2,A3,n0,c0,n1,c1,n2,c2,c3,rfl,hr,hb⟩
 obtain⟨B,b,e,hl,hC⟩:=Kd.R_reads hr
 injection e with e1 e2 e3
 subst e1
 exact⟨A0,A1,A2,A3,n0,c0,n1,c1,n2,c2,c3,rfl,hC,hb⟩
set_option maxHeartbeats 8000000 in
set_option maxRecDepth 100000 in
theorem clean_any (A0 A1 A2 A3 : Option Addr) (n0 c0 n1 c1 n2 c2 n3 c3 : Nat) (t : ByteArray) (wd n : Int) (w : World) :
  Calls Try.prog 67 #[.agg #[.slice A0 n0 c0,.slice A1 n1 c1,.slice A2 n2 c2,.slice A3 n3 c3,.string t,.int .i64 wd,.int .i64 n]] w fun e w'=>e = .returned (.bool (n==0))∧Below w.heap.size w w':=by
 have HB:=Aside0.mk (Below.refl w.heap.size w)
 go_enter Try.func67,Try.ntmps67
 go_wp2
 go_ret
 exact⟨rfl,below_alloc HB.out _⟩
end Go.Proofs.Ytfiamddinkokbaa.F
end
