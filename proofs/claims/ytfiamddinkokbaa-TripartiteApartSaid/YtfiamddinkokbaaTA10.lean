/- Texts joined into one file (wip/tools/pack.py): Back, MidF -/
import Derived.Test.YtfiamddinkokbaaTA6
set_option linter.unusedVariables false
set_option linter.unusedSimpArgs false
section
namespace Go.Proofs.Ytfiamddinkokbaa.F
open Go.RowKit Go.Shelf Go.Proofs.YtfiamddinkokbaaW.PrintWords
set_option maxHeartbeats 4000000 in
set_option maxRecDepth 100000 in
theorem back_calls {B f bf c : Nat} {A C : Option Addr} {ca cb : Nat} {a b : List Int} {l : List SP} {far : List Int} {w : World} (a0 a1 b0 b1 off k d : Int) (xs ys : List Int)
  (hF:Fin B f (.slice A a.length ca) (.slice C b.length cb) l w) (hA:Kd.C (Kd.int .i64) w A a.length a) (hC:Kd.C (Kd.int .i64) w C b.length b) (hR:Row B bf c far w)
  (ha0:0≤a0) (ha1:a0≤a1) (ha2:a1≤a.length) (hb0:0≤b0) (hb1:b0≤b1) (hb2:b1≤b.length) (hla:a.length≤4000000000) (hlb:b.length≤4000000000)
  (hd0:0≤d) (hd1:d≤20000000000) (hk1 : -d≤k) (hk2:k≤d) (ho:d+1≤off) (ho1:off≤20000000000) (hlf:off+d+1<far.length) (hfb:∀ x∈far,-1≤x∧x≤100000000000)
  (hxl:(xs.length:Int)=a1-a0) (hyl:(ys.length:Int)=b1-b0) (hx:∀ u:Int,0≤u→u<a1-a0→rd a (a1-1-u)=rd xs u) (hy:∀ u:Int,0≤u→u<b1-b0→rd b (b1-1-u)=rd ys u)
  (hu0:0≤beginI far off k d) (hu1:k≤beginI far off k d) (hu2:beginI far off k d≤100000000000) :
  Calls Try.prog 171 #[.pointer (some ⟨f,0,none⟩),.agg #[.int .i64 a0,.int .i64 a1,.int .i64 b0,.int .i64 b1],.agg #[.slice (some ⟨bf,0,none⟩) far.length c,.int .i64 off],.int .i64 k,.int .i64 d] w
   (Went bf (off+k) (beginI far off k d) (slideI xs ys k (beginI far off k d)) w):=by
 have hrl:=Kd.R_reads' hR
 have HRC:=Aside0.mk hrl.2.2
 have HRL:=Aside0.mk hrl.2.1
 have HBeg:=Aside0.mk (begin_f far off k d hd0 hd1 hk1 hk2 ho ho1 hlf hfb)
 have HF:=Aside0.mk hF
 have HA:=Aside0.mk hA
 have HC:=Aside0.mk hC
 have HR:=Aside0.mk hR
 have HX:=Aside0.mk hx
 have HY:=Aside0.mk hy
 have HXL:=Aside0.mk hxl
 have HYL:=Aside0.mk hyl
 have HLF:=Aside0.mk hlf
 clear hF hA hC hR hx hy hfb hxl hyl hrl hlf
 generalize beginI far off k d=u0 at *
 go_enter Try.func171,Try.ntmps171
 go_wp2_with (first|(go_at_call 173;with_reducible refine (lcs_run_begin.calls _ _ far off k d u0 _ (Kd.C_alloc (Kd.C_alloc HRC.out _) _) HRL.out HBeg.out).mono ?_;rintro e W1 ⟨rfl,hb1⟩;have h2b:=two_boxes hb1;clear hb1))
 obtain⟨hb1,hx6,hx7⟩:=h2b
 have HB1:=Aside0.mk hb1
 have p0:=(blk_cell hx6 0).trans (rfl:_=some (Value.int .i64 a0))
 have p1:=(blk_cell hx6 1).trans (rfl:_=some (Value.int .i64 a1))
 have p2:=(blk_cell hx6 2).trans (rfl:_=some (Value.int .i64 b0))
 have p3:=(blk_cell hx6 3).trans (rfl:_=some (Value.int .i64 b1))
 have r0:=(blk_cell hx7 0).trans (rfl:_=some (Value.slice (some ⟨bf,0,none⟩) far.length c))
 have r1:=(blk_cell hx7 1).trans (rfl:_=some (Value.int .i64 off))
 have q0:=(HF.out.below hb1).c0
 have q1:=(HF.out.below hb1).c1
 have hst:=Kd.R_cell (0:Int) (Kd.R_below HR.out hb1) (off+k) (by omega) (by have:=HLF.out;omega)
 have st1:=hst.1
 have st2:=hst.2
 have st3:0≤off+k:=by omega
 have st4:off+k<(far.length:Int):=by have:=HLF.out;omega
 clear hb1 hx6 hx7 hst
 go_loopg [12] (a1-a0).toNat (fun gg s12 wr=>∃ (u:Int) (m:Nat),s12 = .int .i64 u∧wr=W1.drewN m∧0≤u∧k≤u∧u≤100000000000∧Aside0 (slideI xs ys k u=slideI xs ys k u0)∧Aside0 ((a1-a0-u).toNat≤gg))
 case atStart=>exact⟨u0,0,rfl,rfl,hu0,hu1,hu2,⟨rfl⟩,⟨by omega⟩⟩
 case round =>
  obtain⟨u,m,rfl,rfl,hv0,hv1,hv2,HS,HM⟩:=hrel
  by_cases h1:u<a1-a0
  ·have h1b:decide (u<a1-a0)=true:=decide_eq_true h1
   by_cases h2:u-k<b1-b0
   ·have h2b:decide (u-k<b1-b0)=true:=decide_eq_true h2
    obtain⟨ad,e1,hx1⟩:=C_int_at (Kd.C_below HA.out HB1.out) (a1-1-u) (by omega) (by omega)
    subst e1
    obtain⟨bd,e2,hx2⟩:=C_int_at (Kd.C_below HC.out HB1.out) (b1-1-(u-k)) (by omega) (by omega)
    subst e2
    have i1:0≤a1-1-u:=by omega
    have i2:a1-1-u<(a.length:Int):=by omega
    have i3:0≤b1-1-(u-k):=by omega
    have i4:b1-1-(u-k)<(b.length:Int):=by omega
    have hxu:=HX.out u hv0 h1
    have hyu:=HY.out (u-k) (by omega) h2
    by_cases h3:rd a (a1-1-u)=rd b (b1-1-(u-k))
    ·have h3b:(rd a (a1-1-u)==rd b (b1-1-(u-k)))=true:=beq_iff_eq.2 h3
     have H3:Aside0 (slideI xs ys k (u+1)=slideI xs ys k u0):=⟨by rw [←slideI_on (by have:=HXL.out;omega) (by have:=HYL.out;omega) (by rw [←hxu,←hyu];exact h3)];exact HS.out⟩
     clear h3 hxu hyu
     go_wp2
     go_quiet (fail)
     go_wp2
     go_roundg ((a1-a0-(u+1)).toNat)
     case measure=>have:=HM.out;omega
     case rel=>exact⟨u+1,m+nq,by go_num,rfl,by omega,by omega,by omega,H3,⟨Nat.le_refl _⟩⟩
    ·have h3b:(rd a (a1-1-u)==rd b (b1-1-(u-k)))=false:=by simpa using h3
     have H3:=Aside0.mk (show slideI xs ys k u0=u by rw [←HS.out];exact slideI_off (by rw [←hxu,←hyu];exact fun h=>h3 h.2.2))
     clear h3 hxu hyu
     go_wp2
     go_quiet (fail)
     go_wp2
     go_ret2
     rw [H3.out]
     exact⟨rfl,W1.drewN (m+nq),pw_below_drewN HB1.out _,rfl⟩
   ·have h2b:decide (u-k<b1-b0)=false:=decide_eq_false h2
    have H3:=Aside0.mk (show slideI xs ys k u0=u by rw [←HS.out];exact slideI_off (fun h=>h2 (by have:=HYL.out;omega)))
    go_wp2
    go_quiet (fail)
    go_wp2
    go_ret2
    rw [H3.out]
    exact⟨rfl,W1.drewN (m+nq),pw_below_drewN HB1.out _,rfl⟩
  ·have h1b:decide (u<a1-a0)=false:=decide_eq_false h1
   have H3:=Aside0.mk (show slideI xs ys k u0=u by rw [←HS.out];exact slideI_off (fun h=>h1 (by have:=HXL.out;omega)))
   go_wp2
   go_quiet (fail)
   go_wp2
   go_ret2
   rw [H3.out]
   exact⟨rfl,W1.drewN (m+nq),pw_below_drewN HB1.out _,rfl⟩
def boundB (l : List Int) : Bool := l.all (fun x=>decide (-1≤x)&&decide (x≤100000000000))
theorem boundB_out {l : List Int} (h : boundB l=true) : ∀ x∈l,-1≤x∧x≤100000000000 := by
 unfold boundB at h
 simpa only [Bool.and_eq_true,decide_eq_true_eq,List.all_eq_true] using h
theorem rd_bound {l : List Int} (h : ∀ x∈l,-1≤x∧x≤100000000000) (i : Int) : -1≤rd l i∧rd l i≤100000000000 := by
 unfold rd
 rw [List.getD_eq_getElem?_getD]
 by_cases hi:i.toNat<l.length
 ·rw [List.getElem?_eq_getElem hi];exact h _ (List.getElem_mem hi)
 ·rw [List.getElem?_eq_none (by omega)];simp
theorem rdOf_rd (l : List Int) (i : Int) : rdOf 0 l i=rd l i := rfl
def okFar (xs ys far other : List Int) (off k d : Int) : Bool := decide (0≤beginI far off k d)&&(decide (k≤beginI far off k d)&&(decide (beginI far off k d≤100000000000)&&(boundB far&&(boundB other &&
 (decide (beginI far off k d≤slideI xs ys k (beginI far off k d))&&decide (slideI xs ys k (beginI far off k d)≤100000000000))))))
theorem okFar_out {xs ys far other : List Int} {off k d : Int} (h : okFar xs ys far other off k d=true) : 0≤beginI far off k d∧k≤beginI far off k d∧beginI far off k d≤100000000000∧(∀ x∈far,-1≤x∧x≤100000000000)∧(∀ x∈other,-1≤x∧x≤100000000000) ∧
  beginI far off k d≤slideI xs ys k (beginI far off k d)∧slideI xs ys k (beginI far off k d)≤100000000000:=by
 unfold okFar at h
 simp only [Bool.and_eq_true,decide_eq_true_eq] at h
 exact⟨h.1,h.2.1,h.2.2.1,boundB_out h.2.2.2.1,boundB_out h.2.2.2.2.1,h.2.2.2.2.2.1,h.2.2.2.2.2.2⟩
def metB (par : Bool) (other : List Int) (off c lim n e : Int) : Bool := par&&(decide (-lim≤c)&&(decide (c≤lim)&&(rd other (off+c) != -1&&decide (n≤e+rd other (off+c)))))
def frontF (xs ys other : List Int) (off delta n d lim : Int) (par : Bool) : Nat→Int→List Int→Option (List Int×Option (Int×Int×Int))
 | 0,_,far=>some (far,none)
 | s+1,k,far =>
  if okFar xs ys far other off k d=true then
   (if metB par other off (delta-k) lim n (slideI xs ys k (beginI far off k d))=true then
    some (far.set (off+k).toNat (slideI xs ys k (beginI far off k d)),some (beginI far off k d,slideI xs ys k (beginI far off k d),k))
   else frontF xs ys other off delta n d lim par s (k+2) (far.set (off+k).toNat (slideI xs ys k (beginI far off k d))))
  else none
def midK2 (n m : Int) (next : List Int→Option (Int×Int×Int)) : Option (List Int×Option (Int×Int×Int))→Option (Int×Int×Int)
 | none=>none
 | some (_,some (u,e,k))=>some (n-e,m-(e-k),e-u)
 | some (rear',none)=>next rear'
def midK1 (next : List Int→Option (Int×Int×Int)) : Option (List Int×Option (Int×Int×Int))→Option (Int×Int×Int)
 | none=>none
 | some (_,some (u,e,k))=>some (u,u-k,e-u)
 | some (fore',none)=>next fore'
def midF (xs ys : List Int) (off delta n m : Int) : Nat→Int→List Int→List Int→Option (Int×Int×Int)
 | 0,_,_,_=>none
 | s+1,d,fore,rear =>
  midK1 (fun fore'=>midK2 n m (fun rear'=>midF xs ys off delta n m s (d+1) fore' rear')
    (frontF xs.reverse ys.reverse fore' off delta n d d (delta.tmod 2==0) (d+1).toNat (-d) rear))
   (frontF xs ys rear off delta n d (d-1) (delta.tmod 2 != 0) (d+1).toNat (-d) fore)
def middleF (xs ys : List Int) : Option (Int×Int×Int) :=
 midF xs ys ((xs.length+ys.length:Nat)+1) ((xs.length:Int)-ys.length) xs.length ys.length (xs.length+ys.length+1) 0 (newRow (xs.length+ys.length)) (newRow (xs.length+ys.length))
theorem metB_true {par : Bool} {other : List Int} {off c lim n e : Int} (h : metB par other off c lim n e=true) :
  par=true ∧ -lim≤c∧c≤lim∧(rd other (off+c) != -1)=true∧n≤e+rd other (off+c):=by
 unfold metB at h
 simp only [Bool.and_eq_true,decide_eq_true_eq] at h
 exact⟨h.1,h.2.1,h.2.2.1,h.2.2.2.1,h.2.2.2.2⟩
theorem metB_false {par : Bool} {other : List Int} {off c lim n e : Int} (h : ¬ metB par other off c lim n e=true) :
  par=false∨(par=true∧decide (-lim≤c)=false)∨(par=true∧decide (-lim≤c)=true∧decide (c≤lim)=false) ∨
  (par=true∧decide (-lim≤c)=true∧decide (c≤lim)=true∧(rd other (off+c) != -1)=false) ∨
  (par=true∧decide (-lim≤c)=true∧decide (c≤lim)=true∧(rd other (off+c) != -1)=true∧decide (n≤e+rd other (off+c))=false):=by
 unfold metB at h
 cases par with
 | false=>exact .inl rfl
 | true =>
  right
  cases h1:decide (-lim≤c) with
  | false=>exact .inl ⟨rfl,rfl⟩
  | true =>
   right
   cases h2:decide (c≤lim) with
   | false=>exact .inl ⟨rfl,rfl,rfl⟩
   | true =>
    right
    cases h3:rd other (off+c) != -1 with
    | false=>exact .inl ⟨rfl,rfl,rfl,rfl⟩
    | true =>
     right
     cases h4:decide (n≤e+rd other (off+c)) with
     | false=>exact⟨rfl,rfl,rfl,rfl,rfl⟩
     | true=>exact absurd (by rw [h1,h2,h3,h4];rfl) h
theorem rd_reverse (xs : List Int) (u : Int) (h0 : 0≤u) (h1 : u<xs.length) : rd xs.reverse u=rd xs ((xs.length : Int)-1-u) := by
 unfold rd
 rw [List.getD_eq_getElem?_getD,List.getD_eq_getElem?_getD,List.getElem?_reverse (by omega),show xs.length-1-u.toNat=((xs.length:Int)-1-u).toNat by omega]
end Go.Proofs.Ytfiamddinkokbaa.F
end
