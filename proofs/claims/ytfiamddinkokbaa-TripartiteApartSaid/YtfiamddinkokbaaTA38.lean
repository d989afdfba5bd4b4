/- Texts joined into one file (wip/tools/pack.py): MidLaw -/
import Derived.Test.YtfiamddinkokbaaTA10
import Derived.Test.YtfiamddinkokbaaTA37
set_option linter.unusedVariables false
set_option linter.unusedSimpArgs false
namespace Go.Proofs.Ytfiamddinkokbaa.F
open Go.RowKit Go.Shelf Go.Proofs.YtfiamddinkokbaaW.PrintWords
theorem hit_iff {xs ys : List Int} {k t : Int} (h0 : 0≤t) (h1 : 0≤t-k) : Lcs.Hit xs ys t (t-k)↔(t<xs.length∧t-k<ys.length∧rd xs t=rd ys (t-k)) := by
 unfold Lcs.Hit rd
 constructor
 ·rintro⟨_,_,h2,h3,h4⟩
  refine⟨h2,h3,?_⟩
  rw [List.getD_eq_getElem?_getD,List.getD_eq_getElem?_getD,h4]
 ·rintro⟨h2,h3,h4⟩
  refine⟨h0,h1,h2,h3,?_⟩
  rw [List.getD_eq_getElem?_getD,List.getD_eq_getElem?_getD,List.getElem?_eq_getElem (l:=xs) (by omega),List.getElem?_eq_getElem (l:=ys) (by omega)] at h4
  rw [List.getElem?_eq_getElem (l:=xs) (by omega),List.getElem?_eq_getElem (l:=ys) (by omega)]
  exact congrArg some h4
theorem slide_law (xs ys : List Int) (k : Int) : ∀ (s : Nat) (u : Int),0≤u→k≤u→(xs.length : Int)-u≤s →
  u≤slide xs ys k s u∧(∀ t,u≤t→t<slide xs ys k s u→Lcs.Hit xs ys t (t-k))∧¬ Lcs.Hit xs ys (slide xs ys k s u) (slide xs ys k s u-k)
 | 0,u,h0,h1,h2=>by
  rw [slide]
  exact⟨Int.le_refl _,fun t h3 h4=>by omega,fun h=>by have:=h.2.2.1;omega⟩
 | s+1,u,h0,h1,h2=>by
  rw [slide]
  split
  ·rename_i h
   obtain⟨g1,g2,g3⟩:=slide_law xs ys k s (u+1) (by omega) (by omega) (by omega)
   refine⟨by omega,fun t h3 h4=>?_,g3⟩
   by_cases ht:t=u
   ·subst ht;exact (hit_iff h0 (by omega)).2 h
   ·exact g2 t (by omega) h4
  ·rename_i h
   exact⟨Int.le_refl _,fun t h3 h4=>by omega,fun hh=>h ((hit_iff h0 (by omega)).1 hh)⟩
theorem slideI_law (xs ys : List Int) {k u : Int} (h0 : 0≤u) (h1 : k≤u) : u≤slideI xs ys k u∧(∀ t,u≤t→t<slideI xs ys k u→Lcs.Hit xs ys t (t-k))∧¬ Lcs.Hit xs ys (slideI xs ys k u) (slideI xs ys k u-k) :=
 slide_law xs ys k _ u h0 h1 (by omega)
theorem far_le {a b : List Int} {d k t : Int} (h : Lcs.Far a b d k t) (hk : k≤d) : t≤d+a.length := by
 obtain⟨h1,h2,h3,_⟩:=h
 have:=Lcs.lcs_le_left (a.take t.toNat) (b.take (t-k).toNat)
 rw [List.length_take] at this
 unfold Lcs.D0 at h3
 omega
theorem rd_set_same {l : List Int} {i x : Int} (h0 : 0≤i) (h1 : i<l.length) : rd (l.set i.toNat x) i=x := by
 unfold rd
 rw [List.getD_eq_getElem?_getD,List.getElem?_set,if_pos rfl,if_pos (by omega)];rfl
theorem rd_set_ne {l : List Int} {i j x : Int} (h0 : 0≤i) (h1 : 0≤j) (h : j≠i) : rd (l.set i.toNat x) j=rd l j := by
 unfold rd
 rw [List.getD_eq_getElem?_getD,List.getElem?_set,if_neg (by omega),←List.getD_eq_getElem?_getD]
theorem bound_set {l : List Int} {i : Nat} {x : Int} (h : ∀ y∈l,-1≤y∧y≤100000000000) (h0 : 0≤x) (h1 : x≤100000000000) : ∀ y∈l.set i x,-1≤y∧y≤100000000000 := by
 intro y hy
 rcases List.mem_or_eq_of_mem_set hy with g|g
 ·exact h y g
 ·omega
theorem boundB_in {l : List Int} (h : ∀ x∈l,-1≤x∧x≤100000000000) : boundB l=true := by
 unfold boundB
 simpa only [Bool.and_eq_true,decide_eq_true_eq,List.all_eq_true] using h
def Fars (xs ys : List Int) (off d k : Int) (far : List Int) : Prop := ∀ j : Int,-d≤j→j<k→(d-j) % 2=0→Lcs.Far xs ys d j (rd far (off+j))
def Prev (xs ys : List Int) (off d : Int) (far : List Int) : Prop := (d=0→rd far (off+1)=0)∧(1≤d→Fars xs ys off (d-1) d far)
theorem begin_law {xs ys : List Int} {off d k : Int} {far : List Int} (hd : 0≤d) (h1 : -d≤k) (h2 : k≤d) (hp : (d-k) % 2=0) (h : Prev xs ys off d far) : Lcs.Begin xs ys d k (beginI far off k d) := by
 by_cases h0:d=0
 ·have hk:k=0:=by omega
  subst hk h0
  have:beginI far off 0 0=0:=by
   unfold beginI
   rw [if_pos (.inl rfl),show off+0+1=off+1 by omega]
   exact h.1 rfl
  rw [this];exact Lcs.begin_zero _ _
 ·have hf:=h.2 (by omega)
  refine Lcs.begin_of (tl:=rd far (off+k-1)) (tr:=rd far (off+k+1)) (by omega) h1 h2 hp (fun hk=>?_) (fun hk=>?_) rfl
  ·have:=hf (k-1) (by omega) (by omega) (by omega)
   rwa [show off+(k-1)=off+k-1 by omega] at this
  ·have:=hf (k+1) (by omega) (by omega) (by omega)
   rwa [show off+(k+1)=off+k+1 by omega] at this
def FrontOK (xs ys other : List Int) (off delta n d lim : Int) (par : Bool) (far' : List Int) : Option (Int×Int×Int)→Prop
 | none=>Fars xs ys off d (d+1) far'∧∀ j:Int,-d≤j→j<d+1→(d-j) % 2=0→¬ metB par other off (delta-j) lim n (rd far' (off+j))=true
 | some (u,e,k)=>-d≤k∧k≤d∧(d-k) % 2=0∧Lcs.Begin xs ys d k u∧u≤e∧(∀ t,u≤t→t<e→Lcs.Hit xs ys t (t-k))∧¬ Lcs.Hit xs ys e (e-k)∧metB par other off (delta-k) lim n e=true
theorem front_law {xs ys other : List Int} {off delta n d lim : Int} {par : Bool} (hd : 0≤d) (hoff : d+1≤off) (hdB : d≤20000000000) (hxl : xs.length≤10000000000) (hob : ∀ x∈other,-1≤x∧x≤100000000000) :
  ∀ (s:Nat) (k:Int) (far:List Int),k+2*s=d+2 → -d≤k→off+d+1<far.length→(∀ x∈far,-1≤x∧x≤100000000000)→Prev xs ys off d far→Fars xs ys off d k far →
  (∀ j:Int,-d≤j→j<k→(d-j) % 2=0→¬ metB par other off (delta-j) lim n (rd far (off+j))=true) →
  ∃ far' r,frontF xs ys other off delta n d lim par s k far=some (far',r)∧far'.length=far.length∧(∀ x∈far',-1≤x∧x≤100000000000)∧FrontOK xs ys other off delta n d lim par far' r
 | 0,k,far,hs,hk,hl,hb,hpv,hf,hm=>by
  refine⟨far,none,by rw [frontF],rfl,hb,?_,?_⟩
  ·exact fun j h1 h2 h3=>hf j h1 (by omega) h3
  ·exact fun j h1 h2 h3=>hm j h1 (by omega) h3
 | s+1,k,far,hs,hk,hl,hb,hpv,hf,hm=>by
  have hkd:k≤d:=by omega
  have hpar:(d-k) % 2=0:=by omega
  have hB:=begin_law hd hk hkd hpar hpv
  have hB1:=hB.1
  have hB2:=hB.2.1
  obtain⟨g1,g2,g3⟩:=slideI_law xs ys hB1 hB2
  obtain⟨hF,_⟩:=Lcs.far_of_begin hB g1 g2 g3
  have hle:=far_le hF hkd
  have hok:okFar xs ys far other off k d=true:=by
   unfold okFar
   rw [boundB_in hb,boundB_in hob]
   simp only [Bool.and_eq_true,decide_eq_true_eq,Bool.true_and,true_and]
   exact⟨hB1,hB2,by omega,g1,by omega⟩
  rw [frontF,if_pos hok]
  generalize beginI far off k d=u at *
  generalize slideI xs ys k u=e at *
  have hb':=bound_set (i:=(off+k).toNat) hb (x:=e) (by omega) (by omega)
  by_cases hmet:metB par other off (delta-k) lim n e=true
  ·rw [if_pos hmet]
   exact⟨_,_,rfl,by simp,hb',hk,hkd,hpar,hB,g1,g2,g3,hmet⟩
  ·rw [if_neg hmet]
   have hnew:∀ j:Int,-d≤j→j<k+2→(d-j) % 2=0→rd (far.set (off+k).toNat e) (off+j)=if j=k then e else rd far (off+j):=by
    intro j h1 h2 h3
    by_cases hjk:j=k
    ·subst hjk;rw [if_pos rfl];exact rd_set_same (by omega) (by omega)
    ·rw [if_neg hjk];exact rd_set_ne (by omega) (by omega) (by omega)
   have q1:Prev xs ys off d (far.set (off+k).toNat e):=by
    refine⟨fun h0=>?_,fun h0 j j1 j2 j3=>?_⟩
    ·rw [rd_set_ne (by omega) (by omega) (by omega)];exact hpv.1 h0
    ·rw [rd_set_ne (by omega) (by omega) (by omega)];exact hpv.2 h0 j j1 j2 j3
   have q2:Fars xs ys off d (k+2) (far.set (off+k).toNat e):=by
    intro j j1 j2 j3
    rw [hnew j j1 j2 j3]
    by_cases hjk:j=k
    ·rw [if_pos hjk,hjk];exact hF
    ·rw [if_neg hjk];exact hf j j1 (by omega) j3
   have q3:∀ j:Int,-d≤j→j<k+2→(d-j) % 2=0→¬ metB par other off (delta-j) lim n (rd (far.set (off+k).toNat e) (off+j))=true:=by
    intro j j1 j2 j3
    rw [hnew j j1 j2 j3]
    by_cases hjk:j=k
    ·rw [if_pos hjk,hjk];exact hmet
    ·rw [if_neg hjk];exact hm j j1 (by omega) j3
   obtain⟨far',r,h1,h2,h3,h4⟩:=front_law hd hoff hdB hxl hob s (k+2) (far.set (off+k).toNat e) (by omega) (by omega) (by rw [List.length_set];exact hl) hb' q1 q2 q3
   exact⟨far',r,h1,by rw [h2,List.length_set],h3,h4⟩
theorem tmod2_ne (x : Int) : (x.tmod 2 != 0)=true↔x % 2≠0 := by
 rw [bne_iff_ne]
 exact⟨fun h g=>h (Int.tmod_eq_zero_of_dvd (Int.dvd_of_emod_eq_zero g)),fun h g=>h (Int.emod_eq_zero_of_dvd (Int.dvd_of_tmod_eq_zero g))⟩
theorem tmod2_eq (x : Int) : (x.tmod 2==0)=true↔x % 2=0 := by
 rw [beq_iff_eq]
 exact⟨fun h=>Int.emod_eq_zero_of_dvd (Int.dvd_of_tmod_eq_zero h),fun h=>Int.tmod_eq_zero_of_dvd (Int.dvd_of_emod_eq_zero h)⟩
def MidOK (xs ys : List Int) (u v s : Int) : Prop :=
 0≤u∧0≤v∧0≤s∧u+s≤xs.length∧v+s≤ys.length∧(∀ t,0≤t→t<s→rd xs (u+t)=rd ys (v+t)) ∧
 Lcs.lcs (xs.take u.toNat) (ys.take v.toNat)+s.toNat+Lcs.lcs (xs.drop (u+s).toNat) (ys.drop (v+s).toNat)=Lcs.lcs xs ys∧u+v<xs.length+ys.length∧0<u+v+2*s
theorem mid_of_met {xs ys : List Int} {d d' k u e t : Int} (hB : Lcs.Begin xs ys d k u) (h1 : u≤e) (h2 : ∀ t,u≤t→t<e→Lcs.Hit xs ys t (t-k)) (h3 : ¬ Lcs.Hit xs ys e (e-k))
  (hr:Lcs.Far xs.reverse ys.reverse d' ((xs.length:Int)-ys.length-k) t) (hdd:d+d'=Lcs.DD xs ys) (hm:(xs.length:Int)≤e+t) (hd:0<d) (hd':0<d'):MidOK xs ys u (u-k) (e-u):=by
 obtain⟨m1,m2,m3,m4,m5,m6,m7⟩:=Lcs.met hB h1 h2 h3 hr hdd hm
 have hl:=Lcs.met_lcs m1 m2 h1 m3 m4 m5 m6 m7 hdd
 refine⟨m1,m2,by omega,by omega,by omega,fun i hi0 hi1=>?_,?_,?_,?_⟩
 ·have:=((hit_iff (xs:=xs) (ys:=ys) (k:=k) (t:=u+i) (by omega) (by omega)).1 (h2 (u+i) (by omega) (by omega))).2.2
  rw [show u-k+i=u+i-k by omega];exact this
 ·rw [show u+(e-u)=e by omega,show u-k+(e-u)=e-k by omega];exact hl
 ·by_cases hc:u+(u-k)<xs.length+ys.length
  ·exact hc
  ·exfalso
   have e1:u=xs.length:=by omega
   have e2:u-k=ys.length:=by omega
   rw [e2,e1,Lcs.D0_all] at m5
   omega
 ·by_cases hc:0<u+(u-k)+2*(e-u)
  ·exact hc
  ·exfalso
   have e1:e=0:=by omega
   have e2:e-k=0:=by omega
   rw [e2,e1,Lcs.D0_zero] at m6
   omega
theorem MidOK_rev {xs ys : List Int} {u v s : Int} (h : MidOK xs.reverse ys.reverse u v s) : MidOK xs ys (xs.length-u-s) (ys.length-v-s) s := by
 unfold MidOK at h
 rw [List.length_reverse,List.length_reverse,Lcs.lcs_reverse] at h
 obtain⟨h1,h2,h3,h4,h5,h6,h7,h8,h9⟩:=h
 refine⟨by omega,by omega,h3,by omega,by omega,fun t t0 t1=>?_,?_,by omega,by omega⟩
 ·have:=h6 (s-1-t) (by omega) (by omega)
  rw [rd_reverse _ _ (by omega) (by omega),rd_reverse _ _ (by omega) (by omega)] at this
  rw [show (xs.length:Int)-u-s+t=(xs.length:Int)-1-(u+(s-1-t)) by omega,show (ys.length:Int)-v-s+t=(ys.length:Int)-1-(v+(s-1-t)) by omega]
  exact this
 ·rw [List.take_reverse,List.take_reverse,List.drop_reverse,List.drop_reverse,Lcs.lcs_reverse,Lcs.lcs_reverse] at h7
  rw [show ((xs.length:Int)-u-s).toNat=xs.length-(u+s).toNat by omega,show ((ys.length:Int)-v-s).toNat=ys.length-(v+s).toNat by omega,
   show ((xs.length:Int)-u-s+s).toNat=xs.length-u.toNat by omega,show ((ys.length:Int)-v-s+s).toNat=ys.length-v.toNat by omega]
  omega
theorem mid_law {xs ys : List Int} {off : Int} (hoff : off=(xs.length : Int)+ys.length+1) (hDD : 2≤Lcs.DD xs ys) (hx : xs.length≤4000000000) (hy : ys.length≤4000000000) :
  ∀ (s:Nat) (d:Int) (fore rear:List Int),0≤d→s+d=xs.length+ys.length+1→2*d-1≤Lcs.DD xs ys→(fore.length:Int)=2*(xs.length+ys.length)+3→(rear.length:Int)=2*(xs.length+ys.length)+3 →
  (∀ x∈fore,-1≤x∧x≤100000000000)→(∀ x∈rear,-1≤x∧x≤100000000000)→Prev xs ys off d fore→Prev xs.reverse ys.reverse off d rear →
  ∃ u v t,midF xs ys off ((xs.length:Int)-ys.length) xs.length ys.length s d fore rear=some (u,v,t)∧MidOK xs ys u v t
 | 0,d,fore,rear,hd,hs,hle,_,_,_,_,_,_=>by
  exfalso
  unfold Lcs.DD at hle
  omega
 | s+1,d,fore,rear,hd,hs,hle,hlf,hlr,hbf,hbr,hpf,hpr=>by
  have hpar:(Lcs.DD xs ys-((xs.length:Int)-ys.length)) % 2=0:=by unfold Lcs.DD;omega
  rw [midF]
  obtain⟨fore',r,e1,e2,e3,e4⟩:=front_law (xs:=xs) (ys:=ys) (other:=rear) (off:=off) (delta:=(xs.length:Int)-ys.length) (n:=xs.length) (d:=d) (lim:=d-1) (par:=((xs.length:Int)-ys.length).tmod 2 != 0)
   hd (by omega) (by omega) (by omega) hbr (d+1).toNat (-d) fore (by omega) (by omega) (by omega) hbf hpf (fun j j1 j2=>by omega) (fun j j1 j2=>by omega)
  rw [e1]
  cases r with
  | some q =>
   obtain⟨u,e,k⟩:=q
   obtain⟨k1,k2,k3,hB,g1,g2,g3,hm⟩:=e4
   obtain⟨m1,m2,m3,m4,m5⟩:=metB_true hm
   have hodd:=(tmod2_ne _).1 m1
   have hr:=hpr.2 (by omega) ((xs.length:Int)-ys.length-k) (by omega) (by omega) (by omega)
   have hf:=(Lcs.far_of_begin hB g1 g2 g3).1
   have hleast:=Lcs.met_least hf hr m5
   exact⟨u,u-k,e-u,rfl,mid_of_met hB g1 g2 g3 hr (by omega) m5 (by omega) (by omega)⟩
  | none =>
   obtain⟨hF,hN⟩:=e4
   show ∃ u v t,midK2 _ _ _ _=some (u,v,t)∧_
   obtain⟨rear',r',f1,f2,f3,f4⟩:=front_law (xs:=xs.reverse) (ys:=ys.reverse) (other:=fore') (off:=off) (delta:=(xs.length:Int)-ys.length) (n:=xs.length) (d:=d) (lim:=d) (par:=((xs.length:Int)-ys.length).tmod 2==0)
    hd (by omega) (by omega) (by rw [List.length_reverse];omega) e3 (d+1).toNat (-d) rear (by omega) (by omega) (by omega) hbr hpr (fun j j1 j2=>by omega) (fun j j1 j2=>by omega)
   rw [f1]
   cases r' with
   | some q =>
    obtain⟨u,e,k⟩:=q
    obtain⟨k1,k2,k3,hB,g1,g2,g3,hm⟩:=f4
    obtain⟨m1,m2,m3,m4,m5⟩:=metB_true hm
    have heven:=(tmod2_eq _).1 m1
    have hr:=hF ((xs.length:Int)-ys.length-k) (by omega) (by omega) (by omega)
    have hf:=(Lcs.far_of_begin hB g1 g2 g3).1
    have hr2:Lcs.Far xs.reverse.reverse ys.reverse.reverse d ((xs.reverse.length:Int)-ys.reverse.length-k) (rd fore' (off+((xs.length:Int)-ys.length-k))):=by
     rw [List.reverse_reverse,List.reverse_reverse,List.length_reverse,List.length_reverse];exact hr
    have hm2:(xs.reverse.length:Int)≤e+rd fore' (off+((xs.length:Int)-ys.length-k)):=by rw [List.length_reverse];exact m5
    have hleast:=Lcs.met_least hf hr2 hm2
    rw [Lcs.DD_reverse] at hleast
    have hmid:=MidOK_rev (mid_of_met hB g1 g2 g3 hr2 (by rw [Lcs.DD_reverse];omega) hm2 (by omega) (by omega))
    rw [show (xs.length:Int)-u-(e-u)=xs.length-e by omega,show (ys.length:Int)-(u-k)-(e-u)=ys.length-(e-k) by omega] at hmid
    exact⟨_,_,_,rfl,hmid⟩
   | none =>
    obtain⟨hF',hN'⟩:=f4
    show ∃ u v t,midF _ _ _ _ _ _ _ _ _ _=some (u,v,t)∧_
    have hcase:2*(d+1)-1≤Lcs.DD xs ys:=by
     by_cases hodd:((xs.length:Int)-ys.length) % 2=0
     ·have hne:=Lcs.not_met (a:=xs) (b:=ys) hd hd (fun k=>rd fore' (off+k)) (fun k=>rd rear' (off+k)) (fun k k1 k2 k3=>hF k k1 (by omega) k3) (fun k k1 k2 k3=>hF' k k1 (by omega) k3) (fun k k1 k2 k3 k4 k5=>?_)
      ·omega
      ·have hn:=hN' ((xs.length:Int)-ys.length-k) k4 (by omega) (by omega)
       have hf:=(hF k k1 (by omega) k3).1
       rcases metB_false hn with g|g|g|g|g
       ·rw [(tmod2_eq _).2 hodd] at g;cases g
       ·have:=of_decide_eq_false g.2;omega
       ·have:=of_decide_eq_false g.2.2;omega
       ·have:=g.2.2.2
        rw [show off+((xs.length:Int)-ys.length-((xs.length:Int)-ys.length-k))=off+k by omega] at this
        have:=bne_eq_false_iff_eq.1 this
        omega
       ·have:=of_decide_eq_false g.2.2.2.2
        rw [show off+((xs.length:Int)-ys.length-((xs.length:Int)-ys.length-k))=off+k by omega] at this
        show rd fore' (off+k)+rd rear' (off+(xs.length-ys.length-k))<xs.length
        omega
     ·by_cases h0:d=0
      ·omega
      ·have hpr2:=hpr.2 (by omega)
       have hne:=Lcs.not_met (a:=xs) (b:=ys) (d:=d) (d':=d-1) hd (by omega) (fun k=>rd fore' (off+k)) (fun k=>rd rear (off+k)) (fun k k1 k2 k3=>hF k k1 (by omega) k3) (fun k k1 k2 k3=>hpr2 k (by omega) (by omega) (by omega)) (fun k k1 k2 k3 k4 k5=>?_)
       ·omega
       ·have hn:=hN k k1 (by omega) k3
        have hf:=(hpr2 ((xs.length:Int)-ys.length-k) (by omega) (by omega) (by omega)).1
        rcases metB_false hn with g|g|g|g|g
        ·rw [(tmod2_ne _).2 hodd] at g;cases g
        ·have:=of_decide_eq_false g.2;omega
        ·have:=of_decide_eq_false g.2.2;omega
        ·have:=bne_eq_false_iff_eq.1 g.2.2.2
         omega
        ·have:=of_decide_eq_false g.2.2.2.2
         show rd fore' (off+k)+rd rear (off+(xs.length-ys.length-k))<xs.length
         omega
    refine mid_law hoff hDD hx hy s (d+1) fore' rear' (by omega) (by omega) hcase (by omega) (by omega) e3 f3 ⟨fun h=>by omega,fun _=>?_⟩ ⟨fun h=>by omega,fun _=>?_⟩
    ·rw [show d+1-1=d by omega];exact hF
    ·rw [show d+1-1=d by omega];exact hF'
theorem middle_law {xs ys : List Int} (hDD : 2≤Lcs.DD xs ys) (hx : xs.length≤4000000000) (hy : ys.length≤4000000000) : ∃ u v t,middleF xs ys=some (u,v,t)∧MidOK xs ys u v t := by
 have hnew:rd (newRow (xs.length+ys.length)) ((xs.length+ys.length:Nat)+1+1)=0:=by
  have:=rd_set_same (l:=List.replicate (2*(xs.length+ys.length)+3) (-1)) (i:=((xs.length+ys.length:Nat):Int)+1+1) (x:=0) (by omega) (by rw [List.length_replicate];omega)
  rw [show (((xs.length+ys.length:Nat):Int)+1+1).toNat=xs.length+ys.length+2 by omega] at this
  exact this
 have hlen:=newRow_length (xs.length+ys.length)
 have hP:∀ a b:List Int,Prev a b (((xs.length+ys.length:Nat):Int)+1) 0 (newRow (xs.length+ys.length)):=fun a b=>⟨fun _=>hnew,fun h=>by omega⟩
 exact mid_law (off:=((xs.length+ys.length:Nat):Int)+1) (by omega) hDD hx hy (xs.length+ys.length+1) 0 _ _ (by omega) (by omega) (by omega) (by omega) (by omega) (newRow_bound _) (newRow_bound _) (hP _ _) (hP _ _)
end Go.Proofs.Ytfiamddinkokbaa.F
