/- Texts joined into one file (wip/tools/pack.py): Ends, Find, Match, Pure, Fn12, Fn127, Fn97, Fn98, Fn121, Fn40, Pure01, Fn65, Fn84 -/
import Derived.Test.YtfiamddinkokbaaGreatTB2
import Derived.Test.YtfiamddinkokbaaGreatTB4
import Derived.Test.YtfiamddinkokbaaGreatTB1
set_option linter.unusedVariables false
set_option linter.unusedSimpArgs false
section
namespace Go.Proofs.YtfiamddinkokbaaGreat.F
open Go.RowKit Go.Shelf Go.Proofs.YtfiamddinkokbaaGreatW.PrintWords Go.Proofs.YtfiamddinkokbaaGreatW.PrintLast Go.Proofs.YtfiamddinkokbaaGreatW.PrintMore
attribute [local go_sem] max2_int min2_int max_two min_two max_three min_three max_four min_four
def pre {α : Type} [DecidableEq α] : List α→List α→Nat
 | x::a,y::b=>if x=y then pre a b+1 else 0
 | _,_=>0
theorem pre_nil_left {α : Type} [DecidableEq α] (b : List α) : pre ([] : List α) b=0 := by unfold pre;rfl
theorem pre_nil_right {α : Type} [DecidableEq α] (a : List α) : pre a ([] : List α)=0 := by cases a<;>rfl
theorem pre_le {α : Type} [DecidableEq α] : ∀ (a b : List α),pre a b≤a.length∧pre a b≤b.length
 | [],b=>by rw [pre_nil_left];simp
 | x::a,[]=>by rw [pre_nil_right];simp
 | x::a,y::b=>by
  rw [pre]
  have:=pre_le a b
  split<;>simp only [List.length_cons]<;>omega
theorem pre_on {α : Type} [DecidableEq α] {a b : List α} {u : Nat} (h1 : u<a.length) (h2 : u<b.length) (h : a[u]? = b[u]?) : pre (a.drop u) (b.drop u)=pre (a.drop (u+1)) (b.drop (u+1))+1 := by
 rw [List.getElem?_eq_getElem h1,List.getElem?_eq_getElem h2] at h
 rw [List.drop_eq_getElem_cons h1,List.drop_eq_getElem_cons h2,pre,if_pos (Option.some.inj h)]
theorem pre_off {α : Type} [DecidableEq α] {a b : List α} {u : Nat} (h : ¬ (u<a.length∧u<b.length∧a[u]? = b[u]?)) : pre (a.drop u) (b.drop u)=0 := by
 by_cases h1:u<a.length
 ·by_cases h2:u<b.length
  ·rw [List.drop_eq_getElem_cons h1,List.drop_eq_getElem_cons h2,pre,if_neg]
   intro e
   exact h ⟨h1,h2,by rw [List.getElem?_eq_getElem h1,List.getElem?_eq_getElem h2,e]⟩
  ·rw [List.drop_of_length_le (l:=b) (by omega),pre_nil_right]
 ·rw [List.drop_of_length_le (l:=a) (by omega),pre_nil_left]
def endsN {α : Type} [DecidableEq α] (xs ys : List α) : Nat := pre xs ys
def endsM {α : Type} [DecidableEq α] (xs ys : List α) : Nat := pre (xs.drop (pre xs ys)).reverse (ys.drop (pre xs ys)).reverse
theorem rd_eq_iff {a b : List Int} {u : Int} (h0 : 0≤u) (h1 : u<a.length) (h2 : u<b.length) : rd a u=rd b u↔a[u.toNat]? = b[u.toNat]? := by
 unfold rd
 rw [List.getD_eq_getElem?_getD,List.getD_eq_getElem?_getD,List.getElem?_eq_getElem (l:=a) (by omega),List.getElem?_eq_getElem (l:=b) (by omega)]
 simp
theorem rd_rev {a : List Int} {v : Int} (h0 : 0≤v) (h1 : v<a.length) : rd a ((a.length : Int)-1-v)=rd a.reverse v := by
 unfold rd
 rw [List.getD_eq_getElem?_getD,List.getD_eq_getElem?_getD,List.getElem?_reverse (by omega),show a.length-1-v.toNat=((a.length:Int)-1-v).toNat by omega]
theorem C_readsInt {w : World} {A : Option Addr} {n : Nat} {xs : List Int} (h : Kd.C (Kd.int .i64) w A n xs) : ReadsInt w .i64 A n xs := by
 refine⟨h.1,h.2.1,fun hn=>?_⟩
 obtain⟨ad,e,hc⟩:=h.2.2 hn
 refine⟨ad,e,fun j hj=>?_⟩
 have hi:j<xs.length:=by rw [h.1];exact hj
 obtain⟨ad',e',h'⟩:=C_int_at h (j:Int) (by omega) (by omega)
 rw [e] at e'
 obtain rfl:=Option.some.inj e'
 rw [Int.toNat_natCast] at h'
 rw [h'];rfl
theorem cut_C {w : World} {A : Option Addr} {c : Nat} {xs : List Int} (h : Kd.C (Kd.int .i64) w A xs.length xs) (hc : xs.length≤c) (j : Int) (h0 : 0≤j) (h1 : j≤xs.length) :
  ∃ (A':Option Addr) (n':Nat),n'=(xs.drop j.toNat).length∧(∀ W:World,(Instr.slice 48 (.slice A xs.length c) (some (.int .i64 j)) none none).run Tryz.prog W = .ok (.slice A' n' (c-j.toNat)) W)∧ReadsInt w .i64 A' n' (xs.drop j.toNat):=by
 obtain⟨i0,hi,hz0,hz1,hz2⟩:=info_parts (show (Tryz.prog.info? 3).map (fun i=>(i.zero,i.size,i.bytes))=some (some (.int .i64 0),1,8) by kernel_rfl)
 obtain⟨A',h2,h3,_⟩:=print_cut_int (P:=Tryz.prog) (k := .i64) 48 3 Tryz.underlying48 hi hz1 A c xs j h0 h1 hc
 exact⟨A',_,rfl,h2,h3 w (C_readsInt h)⟩
theorem reads_rev {w : World} {A : Option Addr} {n : Nat} {xs : List Int} (h : ReadsInt w .i64 A n xs) (v : Int) (h0 : 0≤v) (h1 : v<n) :
  ∃ ad,A=some ad∧w.cell? (ad.add ((n:Int)-1-v).toNat)=some (.int .i64 (rd xs.reverse v)):=by
 have hn:=h.1
 subst hn
 obtain⟨ad,e,hc⟩:=h.at_ ((xs.length:Int)-1-v) (by omega) (by omega)
 exact⟨ad,e,by rw [hc,rd_rev h0 h1]⟩
set_option maxHeartbeats 8000000 in
set_option maxRecDepth 100000 in
theorem ends_calls {A C : Option Addr} {ca cb : Nat} {xs ys : List Int} {w : World} (hA : Kd.C (Kd.int .i64) w A xs.length xs) (hC : Kd.C (Kd.int .i64) w C ys.length ys) (hca : xs.length≤ca) (hcb : ys.length≤cb) (hx : xs.length≤4000000000) (hy : ys.length≤4000000000) :
  Calls Tryz.prog 139 #[.slice A xs.length ca,.slice C ys.length cb] w fun e w'=>e = .returned (.tuple #[.int .i64 (endsN xs ys),.int .i64 (endsM xs ys)])∧Drawn0 w w':=by
 have HA:=Zd hA
 have HC:=Zd hC
 have HCA:=Zd hca
 have HCB:=Zd hcb
 clear hA hC hca hcb
 by_cases hab:ys.length<xs.length
 ·have habb:decide (ys.length<xs.length)=true:=decide_eq_true hab
  go_enter Tryz.func139,Tryz.ntmps139
  go_wp2
  go_loopg [6] xs.length (fun gg s6 wr=>∃ (u:Int) (q:Nat),s6 = .int .i64 u∧wr=w.drewN q∧0≤u∧u≤ys.length∧Aside0 (pre xs ys=u.toNat+pre (xs.drop u.toNat) (ys.drop u.toNat))∧Aside0 (xs.length-u.toNat≤gg))
  case atStart=>exact⟨0,0,rfl,rfl,by omega,by omega,⟨by simp⟩,⟨by simp⟩⟩
  case round =>
   obtain⟨u,q,rfl,rfl,hu0,hu1,HP,HG⟩:=hrel
   have hcase:(decide (u<(ys.length:Int))=false∧Aside0 (pre xs ys=u.toNat))∨(u<ys.length∧∃ ad bd,A=some ad∧C=some bd∧w.cell? (ad.add u.toNat)=some (.int .i64 (rd xs u))∧w.cell? (bd.add u.toNat)=some (.int .i64 (rd ys u)) ∧
     ((rd xs u==rd ys u)=false∧Aside0 (pre xs ys=u.toNat)∨(rd xs u==rd ys u)=true∧Aside0 (pre xs ys=(u+1).toNat+pre (xs.drop (u+1).toNat) (ys.drop (u+1).toNat)))):=by
    by_cases h1:u<ys.length
    ·right
     have h2:u<(xs.length:Int):=by omega
     have h4:u<(ys.length:Int):=by omega
     obtain⟨ad,e1,hx1⟩:=C_int_at HA.out u hu0 h2
     obtain⟨bd,e2,hx2⟩:=C_int_at HC.out u hu0 h4
     refine⟨h1,ad,bd,e1,e2,hx1,hx2,?_⟩
     by_cases h3:rd xs u=rd ys u
     ·refine .inr ⟨beq_iff_eq.2 h3,⟨?_⟩⟩
      have:=pre_on (a:=xs) (b:=ys) (u:=u.toNat) (by omega) (by omega) ((rd_eq_iff hu0 h2 h4).1 h3)
      rw [HP.out,this,show (u+1).toNat=u.toNat+1 by omega];omega
     ·exact .inl ⟨by simpa using h3,⟨by rw [HP.out,pre_off (fun h=>h3 ((rd_eq_iff hu0 h2 h4).2 h.2.2))];rfl⟩⟩
    ·left
     exact⟨decide_eq_false h1,⟨by rw [HP.out,pre_off (fun h=>h1 (by omega))];rfl⟩⟩
   have hux:u≤(xs.length:Int):=by omega
   have huy:u≤(ys.length:Int):=by omega
   clear HP
   rcases hcase with ⟨h1b,HP⟩|⟨h1,ad,bd,rfl,rfl,hx1,hx2,⟨h3b,HP⟩|⟨h3b,HP⟩⟩
   rotate_left 2
   ·have h1b:decide (u<(ys.length:Int))=true:=decide_eq_true h1
    have h2:u<(xs.length:Int):=by omega
    have h4:u<(ys.length:Int):=by omega
    go_wp2
    go_quiet (fail)
    go_wp2
    go_roundg (xs.length-(u+1).toNat)
    case measure=>have:=HG.out;omega
    case rel=>exact⟨u+1,q+nq,by go_num,rfl,by omega,by omega,HP,⟨Nat.le_refl _⟩⟩
   rotate_left
   ·have h1b:decide (u<(ys.length:Int))=true:=decide_eq_true h1
    have h2:u<(xs.length:Int):=by omega
    have h4:u<(ys.length:Int):=by omega
    go_wp2
    go_quiet (fail)
    clear hx1 hx2 h3b h1b h1
    obtain⟨A2,lx,hlx,hcut1,hr1⟩:=cut_C HA.out HCA.out u hu0 hux
    obtain⟨C2,ly,hly,hcut2,hr2⟩:=cut_C HC.out HCB.out u hu0 huy
    have HR1:=Zd hr1
    have HLX:=Zd hlx
    have HLY:=Zd hly
    have HR2:=Zd hr2
    clear hr1 hr2 hlx hly
    go_wp2
    go_quiet (fail)
    clear hcut1 hcut2
    have habb2:decide (ly<lx)=true:=by rw [HLX.out,HLY.out,List.length_drop,List.length_drop];exact decide_eq_true (by omega)
    have HPR:=Zd (show endsM xs ys=pre (xs.drop u.toNat).reverse (ys.drop u.toNat).reverse by unfold endsM;rw [HP.out])
    have hlx:lx≤4000000000:=by rw [HLX.out,List.length_drop];omega
    have hly:ly≤4000000000:=by rw [HLY.out,List.length_drop];omega
    have hab2:ly<lx:=by rw [HLX.out,HLY.out,List.length_drop,List.length_drop];omega
    have hle:ly≤lx:=by rw [HLX.out,HLY.out,List.length_drop,List.length_drop];omega
    have HUZ:=Zd (show ((endsN xs ys:Nat):Int)=u by unfold endsN;rw [HP.out];omega)
    have HUU:=Zd huy
    have HUV:=Zd hux
    clear HP HG habb hux huy hu1
    generalize xs.drop u.toNat=xd at *
    generalize ys.drop u.toNat=yd at *
    go_wp2
    obtain⟨q0,hq0⟩:∃ q0:Nat,Aside0 (q0=q0):=⟨0,⟨rfl⟩⟩
    clear hq0 q0
    go_loopg [7] lx (fun gg s7 wr=>∃ (v:Int) (q:Nat),s7 = .int .i64 v∧wr=w.drewN q∧0≤v∧v≤ly∧Aside0 (pre xd.reverse yd.reverse=v.toNat+pre (xd.reverse.drop v.toNat) (yd.reverse.drop v.toNat))∧Aside0 (lx-v.toNat≤gg))
    case atStart=>exact⟨0,_,rfl,(by rw [World.drewN_drewN,World.drewN_drewN]),by omega,by omega,⟨by simp⟩,⟨by simp⟩⟩
    case round =>
     obtain⟨v,q2,rfl,rfl,hv0,hv1,HP,HG⟩:=hrel
     have hcase:(decide (v<(ly:Int))=false∧Aside0 (pre xd.reverse yd.reverse=v.toNat))∨(v<ly∧∃ ad bd,A2=some ad∧C2=some bd∧w.cell? (ad.add ((lx:Int)-1-v).toNat)=some (.int .i64 (rd xd.reverse v))∧w.cell? (bd.add ((ly:Int)-1-v).toNat)=some (.int .i64 (rd yd.reverse v)) ∧
       ((rd xd.reverse v==rd yd.reverse v)=false∧Aside0 (pre xd.reverse yd.reverse=v.toNat)∨(rd xd.reverse v==rd yd.reverse v)=true∧Aside0 (pre xd.reverse yd.reverse=(v+1).toNat+pre (xd.reverse.drop (v+1).toNat) (yd.reverse.drop (v+1).toNat)))):=by
      have l1:xd.reverse.length=lx:=by rw [List.length_reverse];exact HLX.out.symm
      have l2:yd.reverse.length=ly:=by rw [List.length_reverse];exact HLY.out.symm
      by_cases h1:v<ly
      ·right
       have h2:v<(lx:Int):=by omega
       have h4:v<(ly:Int):=by omega
       obtain⟨ad,e1,hx1⟩:=reads_rev HR1.out v hv0 h2
       obtain⟨bd,e2,hx2⟩:=reads_rev HR2.out v hv0 h4
       refine⟨h1,ad,bd,e1,e2,hx1,hx2,?_⟩
       by_cases h3:rd xd.reverse v=rd yd.reverse v
       ·refine .inr ⟨beq_iff_eq.2 h3,⟨?_⟩⟩
        have:=pre_on (a:=xd.reverse) (b:=yd.reverse) (u:=v.toNat) (by omega) (by omega) ((rd_eq_iff hv0 (by omega) (by omega)).1 h3)
        rw [HP.out,this,show (v+1).toNat=v.toNat+1 by omega];omega
       ·exact .inl ⟨by simpa using h3,⟨by rw [HP.out,pre_off (fun h=>h3 ((rd_eq_iff hv0 (by omega) (by omega)).2 h.2.2))];rfl⟩⟩
      ·left
       exact⟨decide_eq_false h1,⟨by rw [HP.out,pre_off (fun h=>h1 (by omega))];rfl⟩⟩
     clear HP
     generalize rd xd.reverse v=cx at hcase
     generalize rd yd.reverse v=cy at hcase
     rcases hcase with ⟨h1b,HP⟩|⟨h1,ad,bd,rfl,rfl,hx1,hx2,⟨h3b,HP⟩|⟨h3b,HP⟩⟩
     ·go_wp2
      go_quiet (fail)
      go_wp2
      go_ret2
      rw [HPR.out,HP.out,HUZ.out,show ((v.toNat:Nat):Int)=v by omega]
      exact⟨rfl,Drawn0.step ⟨⟨q2,rfl⟩⟩ _⟩
     ·have h1b:decide (v<(ly:Int))=true:=decide_eq_true h1
      have i0:0≤(lx:Int)-1-v:=by omega
      have i1:(lx:Int)-1-v<(lx:Int):=by omega
      have i2:0≤(ly:Int)-1-v:=by omega
      have i3:(ly:Int)-1-v<(ly:Int):=by omega
      go_wp2
      go_quiet (fail)
      go_wp2
      go_ret2
      rw [HPR.out,HP.out,HUZ.out,show ((v.toNat:Nat):Int)=v by omega]
      exact⟨rfl,Drawn0.step ⟨⟨q2,rfl⟩⟩ _⟩
     ·have h1b:decide (v<(ly:Int))=true:=decide_eq_true h1
      have i0:0≤(lx:Int)-1-v:=by omega
      have i1:(lx:Int)-1-v<(lx:Int):=by omega
      have i2:0≤(ly:Int)-1-v:=by omega
      have i3:(ly:Int)-1-v<(ly:Int):=by omega
      go_wp2
      go_quiet (fail)
      go_wp2
      go_roundg (lx-(v+1).toNat)
      case measure=>have:=HG.out;omega
      case rel=>exact⟨v+1,q2+nq,by go_num,rfl,by omega,by omega,HP,⟨Nat.le_refl _⟩⟩
   ·go_wp2
    go_quiet (fail)
    clear h1b
    obtain⟨A2,lx,hlx,hcut1,hr1⟩:=cut_C HA.out HCA.out u hu0 hux
    obtain⟨C2,ly,hly,hcut2,hr2⟩:=cut_C HC.out HCB.out u hu0 huy
    have HR1:=Zd hr1
    have HLX:=Zd hlx
    have HLY:=Zd hly
    have HR2:=Zd hr2
    clear hr1 hr2 hlx hly
    go_wp2
    go_quiet (fail)
    clear hcut1 hcut2
    have habb2:decide (ly<lx)=true:=by rw [HLX.out,HLY.out,List.length_drop,List.length_drop];exact decide_eq_true (by omega)
    have HPR:=Zd (show endsM xs ys=pre (xs.drop u.toNat).reverse (ys.drop u.toNat).reverse by unfold endsM;rw [HP.out])
    have hlx:lx≤4000000000:=by rw [HLX.out,List.length_drop];omega
    have hly:ly≤4000000000:=by rw [HLY.out,List.length_drop];omega
    have hab2:ly<lx:=by rw [HLX.out,HLY.out,List.length_drop,List.length_drop];omega
    have hle:ly≤lx:=by rw [HLX.out,HLY.out,List.length_drop,List.length_drop];omega
    have HUZ:=Zd (show ((endsN xs ys:Nat):Int)=u by unfold endsN;rw [HP.out];omega)
    have HUU:=Zd huy
    have HUV:=Zd hux
    clear HP HG habb hux huy hu1
    generalize xs.drop u.toNat=xd at *
    generalize ys.drop u.toNat=yd at *
    go_wp2
    obtain⟨q0,hq0⟩:∃ q0:Nat,Aside0 (q0=q0):=⟨0,⟨rfl⟩⟩
    clear hq0 q0
    go_loopg [7] lx (fun gg s7 wr=>∃ (v:Int) (q:Nat),s7 = .int .i64 v∧wr=w.drewN q∧0≤v∧v≤ly∧Aside0 (pre xd.reverse yd.reverse=v.toNat+pre (xd.reverse.drop v.toNat) (yd.reverse.drop v.toNat))∧Aside0 (lx-v.toNat≤gg))
    case atStart=>exact⟨0,_,rfl,(by rw [World.drewN_drewN,World.drewN_drewN]),by omega,by omega,⟨by simp⟩,⟨by simp⟩⟩
    case round =>
     obtain⟨v,q2,rfl,rfl,hv0,hv1,HP,HG⟩:=hrel
     have hcase:(decide (v<(ly:Int))=false∧Aside0 (pre xd.reverse yd.reverse=v.toNat))∨(v<ly∧∃ ad bd,A2=some ad∧C2=some bd∧w.cell? (ad.add ((lx:Int)-1-v).toNat)=some (.int .i64 (rd xd.reverse v))∧w.cell? (bd.add ((ly:Int)-1-v).toNat)=some (.int .i64 (rd yd.reverse v)) ∧
       ((rd xd.reverse v==rd yd.reverse v)=false∧Aside0 (pre xd.reverse yd.reverse=v.toNat)∨(rd xd.reverse v==rd yd.reverse v)=true∧Aside0 (pre xd.reverse yd.reverse=(v+1).toNat+pre (xd.reverse.drop (v+1).toNat) (yd.reverse.drop (v+1).toNat)))):=by
      have l1:xd.reverse.length=lx:=by rw [List.length_reverse];exact HLX.out.symm
      have l2:yd.reverse.length=ly:=by rw [List.length_reverse];exact HLY.out.symm
      by_cases h1:v<ly
      ·right
       have h2:v<(lx:Int):=by omega
       have h4:v<(ly:Int):=by omega
       obtain⟨ad,e1,hx1⟩:=reads_rev HR1.out v hv0 h2
       obtain⟨bd,e2,hx2⟩:=reads_rev HR2.out v hv0 h4
       refine⟨h1,ad,bd,e1,e2,hx1,hx2,?_⟩
       by_cases h3:rd xd.reverse v=rd yd.reverse v
       ·refine .inr ⟨beq_iff_eq.2 h3,⟨?_⟩⟩
        have:=pre_on (a:=xd.reverse) (b:=yd.reverse) (u:=v.toNat) (by omega) (by omega) ((rd_eq_iff hv0 (by omega) (by omega)).1 h3)
        rw [HP.out,this,show (v+1).toNat=v.toNat+1 by omega];omega
       ·exact .inl ⟨by simpa using h3,⟨by rw [HP.out,pre_off (fun h=>h3 ((rd_eq_iff hv0 (by omega) (by omega)).2 h.2.2))];rfl⟩⟩
      ·left
       exact⟨decide_eq_false h1,⟨by rw [HP.out,pre_off (fun h=>h1 (by omega))];rfl⟩⟩
     clear HP
     generalize rd xd.reverse v=cx at hcase
     generalize rd yd.reverse v=cy at hcase
     rcases hcase with ⟨h1b,HP⟩|⟨h1,ad,bd,rfl,rfl,hx1,hx2,⟨h3b,HP⟩|⟨h3b,HP⟩⟩
     ·go_wp2
      go_quiet (fail)
      go_wp2
      go_ret2
      rw [HPR.out,HP.out,HUZ.out,show ((v.toNat:Nat):Int)=v by omega]
      exact⟨rfl,Drawn0.step ⟨⟨q2,rfl⟩⟩ _⟩
     ·have h1b:decide (v<(ly:Int))=true:=decide_eq_true h1
      have i0:0≤(lx:Int)-1-v:=by omega
      have i1:(lx:Int)-1-v<(lx:Int):=by omega
      have i2:0≤(ly:Int)-1-v:=by omega
      have i3:(ly:Int)-1-v<(ly:Int):=by omega
      go_wp2
      go_quiet (fail)
      go_wp2
      go_ret2
      rw [HPR.out,HP.out,HUZ.out,show ((v.toNat:Nat):Int)=v by omega]
      exact⟨rfl,Drawn0.step ⟨⟨q2,rfl⟩⟩ _⟩
     ·have h1b:decide (v<(ly:Int))=true:=decide_eq_true h1
      have i0:0≤(lx:Int)-1-v:=by omega
      have i1:(lx:Int)-1-v<(lx:Int):=by omega
      have i2:0≤(ly:Int)-1-v:=by omega
      have i3:(ly:Int)-1-v<(ly:Int):=by omega
      go_wp2
      go_quiet (fail)
      go_wp2
      go_roundg (lx-(v+1).toNat)
      case measure=>have:=HG.out;omega
      case rel=>exact⟨v+1,q2+nq,by go_num,rfl,by omega,by omega,HP,⟨Nat.le_refl _⟩⟩
 ·have habb:decide (ys.length<xs.length)=false:=decide_eq_false hab
  go_enter Tryz.func139,Tryz.ntmps139
  go_wp2
  go_loopg [6] xs.length (fun gg s6 wr=>∃ (u:Int) (q:Nat),s6 = .int .i64 u∧wr=w.drewN q∧0≤u∧u≤xs.length∧Aside0 (pre xs ys=u.toNat+pre (xs.drop u.toNat) (ys.drop u.toNat))∧Aside0 (xs.length-u.toNat≤gg))
  case atStart=>exact⟨0,0,rfl,rfl,by omega,by omega,⟨by simp⟩,⟨by simp⟩⟩
  case round =>
   obtain⟨u,q,rfl,rfl,hu0,hu1,HP,HG⟩:=hrel
   have hcase:(decide (u<(xs.length:Int))=false∧Aside0 (pre xs ys=u.toNat))∨(u<xs.length∧∃ ad bd,A=some ad∧C=some bd∧w.cell? (ad.add u.toNat)=some (.int .i64 (rd xs u))∧w.cell? (bd.add u.toNat)=some (.int .i64 (rd ys u)) ∧
     ((rd xs u==rd ys u)=false∧Aside0 (pre xs ys=u.toNat)∨(rd xs u==rd ys u)=true∧Aside0 (pre xs ys=(u+1).toNat+pre (xs.drop (u+1).toNat) (ys.drop (u+1).toNat)))):=by
    by_cases h1:u<xs.length
    ·right
     have h2:u<(xs.length:Int):=by omega
     have h4:u<(ys.length:Int):=by omega
     obtain⟨ad,e1,hx1⟩:=C_int_at HA.out u hu0 h2
     obtain⟨bd,e2,hx2⟩:=C_int_at HC.out u hu0 h4
     refine⟨h1,ad,bd,e1,e2,hx1,hx2,?_⟩
     by_cases h3:rd xs u=rd ys u
     ·refine .inr ⟨beq_iff_eq.2 h3,⟨?_⟩⟩
      have:=pre_on (a:=xs) (b:=ys) (u:=u.toNat) (by omega) (by omega) ((rd_eq_iff hu0 h2 h4).1 h3)
      rw [HP.out,this,show (u+1).toNat=u.toNat+1 by omega];omega
     ·exact .inl ⟨by simpa using h3,⟨by rw [HP.out,pre_off (fun h=>h3 ((rd_eq_iff hu0 h2 h4).2 h.2.2))];rfl⟩⟩
    ·left
     exact⟨decide_eq_false h1,⟨by rw [HP.out,pre_off (fun h=>h1 (by omega))];rfl⟩⟩
   have hux:u≤(xs.length:Int):=by omega
   have huy:u≤(ys.length:Int):=by omega
   clear HP
   rcases hcase with ⟨h1b,HP⟩|⟨h1,ad,bd,rfl,rfl,hx1,hx2,⟨h3b,HP⟩|⟨h3b,HP⟩⟩
   rotate_left 2
   ·have h1b:decide (u<(xs.length:Int))=true:=decide_eq_true h1
    have h2:u<(xs.length:Int):=by omega
    have h4:u<(ys.length:Int):=by omega
    go_wp2
    go_quiet (fail)
    go_wp2
    go_roundg (xs.length-(u+1).toNat)
    case measure=>have:=HG.out;omega
    case rel=>exact⟨u+1,q+nq,by go_num,rfl,by omega,by omega,HP,⟨Nat.le_refl _⟩⟩
   rotate_left
   ·have h1b:decide (u<(xs.length:Int))=true:=decide_eq_true h1
    have h2:u<(xs.length:Int):=by omega
    have h4:u<(ys.length:Int):=by omega
    go_wp2
    go_quiet (fail)
    clear hx1 hx2 h3b h1b h1
    obtain⟨A2,lx,hlx,hcut1,hr1⟩:=cut_C HA.out HCA.out u hu0 hux
    obtain⟨C2,ly,hly,hcut2,hr2⟩:=cut_C HC.out HCB.out u hu0 huy
    have HR1:=Zd hr1
    have HLX:=Zd hlx
    have HLY:=Zd hly
    have HR2:=Zd hr2
    clear hr1 hr2 hlx hly
    go_wp2
    go_quiet (fail)
    clear hcut1 hcut2
    have habb2:decide (ly<lx)=false:=by rw [HLX.out,HLY.out,List.length_drop,List.length_drop];exact decide_eq_false (by omega)
    have HPR:=Zd (show endsM xs ys=pre (xs.drop u.toNat).reverse (ys.drop u.toNat).reverse by unfold endsM;rw [HP.out])
    have hlx:lx≤4000000000:=by rw [HLX.out,List.length_drop];omega
    have hly:ly≤4000000000:=by rw [HLY.out,List.length_drop];omega
    have hab2:¬ ly<lx:=by rw [HLX.out,HLY.out,List.length_drop,List.length_drop];omega
    have hle:lx≤ly:=by rw [HLX.out,HLY.out,List.length_drop,List.length_drop];omega
    have HUZ:=Zd (show ((endsN xs ys:Nat):Int)=u by unfold endsN;rw [HP.out];omega)
    have HUU:=Zd huy
    have HUV:=Zd hux
    clear HP HG habb hux huy hu1
    generalize xs.drop u.toNat=xd at *
    generalize ys.drop u.toNat=yd at *
    go_wp2
    obtain⟨q0,hq0⟩:∃ q0:Nat,Aside0 (q0=q0):=⟨0,⟨rfl⟩⟩
    clear hq0 q0
    go_loopg [7] lx (fun gg s7 wr=>∃ (v:Int) (q:Nat),s7 = .int .i64 v∧wr=w.drewN q∧0≤v∧v≤lx∧Aside0 (pre xd.reverse yd.reverse=v.toNat+pre (xd.reverse.drop v.toNat) (yd.reverse.drop v.toNat))∧Aside0 (lx-v.toNat≤gg))
    case atStart=>exact⟨0,_,rfl,(by rw [World.drewN_drewN,World.drewN_drewN]),by omega,by omega,⟨by simp⟩,⟨by simp⟩⟩
    case round =>
     obtain⟨v,q2,rfl,rfl,hv0,hv1,HP,HG⟩:=hrel
     have hcase:(decide (v<(lx:Int))=false∧Aside0 (pre xd.reverse yd.reverse=v.toNat))∨(v<lx∧∃ ad bd,A2=some ad∧C2=some bd∧w.cell? (ad.add ((lx:Int)-1-v).toNat)=some (.int .i64 (rd xd.reverse v))∧w.cell? (bd.add ((ly:Int)-1-v).toNat)=some (.int .i64 (rd yd.reverse v)) ∧
       ((rd xd.reverse v==rd yd.reverse v)=false∧Aside0 (pre xd.reverse yd.reverse=v.toNat)∨(rd xd.reverse v==rd yd.reverse v)=true∧Aside0 (pre xd.reverse yd.reverse=(v+1).toNat+pre (xd.reverse.drop (v+1).toNat) (yd.reverse.drop (v+1).toNat)))):=by
      have l1:xd.reverse.length=lx:=by rw [List.length_reverse];exact HLX.out.symm
      have l2:yd.reverse.length=ly:=by rw [List.length_reverse];exact HLY.out.symm
      by_cases h1:v<lx
      ·right
       have h2:v<(lx:Int):=by omega
       have h4:v<(ly:Int):=by omega
       obtain⟨ad,e1,hx1⟩:=reads_rev HR1.out v hv0 h2
       obtain⟨bd,e2,hx2⟩:=reads_rev HR2.out v hv0 h4
       refine⟨h1,ad,bd,e1,e2,hx1,hx2,?_⟩
       by_cases h3:rd xd.reverse v=rd yd.reverse v
       ·refine .inr ⟨beq_iff_eq.2 h3,⟨?_⟩⟩
        have:=pre_on (a:=xd.reverse) (b:=yd.reverse) (u:=v.toNat) (by omega) (by omega) ((rd_eq_iff hv0 (by omega) (by omega)).1 h3)
        rw [HP.out,this,show (v+1).toNat=v.toNat+1 by omega];omega
       ·exact .inl ⟨by simpa using h3,⟨by rw [HP.out,pre_off (fun h=>h3 ((rd_eq_iff hv0 (by omega) (by omega)).2 h.2.2))];rfl⟩⟩
      ·left
       exact⟨decide_eq_false h1,⟨by rw [HP.out,pre_off (fun h=>h1 (by omega))];rfl⟩⟩
     clear HP
     generalize rd xd.reverse v=cx at hcase
     generalize rd yd.reverse v=cy at hcase
     rcases hcase with ⟨h1b,HP⟩|⟨h1,ad,bd,rfl,rfl,hx1,hx2,⟨h3b,HP⟩|⟨h3b,HP⟩⟩
     ·go_wp2
      go_quiet (fail)
      go_wp2
      go_ret2
      rw [HPR.out,HP.out,HUZ.out,show ((v.toNat:Nat):Int)=v by omega]
      exact⟨rfl,Drawn0.step ⟨⟨q2,rfl⟩⟩ _⟩
     ·have h1b:decide (v<(lx:Int))=true:=decide_eq_true h1
      have i0:0≤(lx:Int)-1-v:=by omega
      have i1:(lx:Int)-1-v<(lx:Int):=by omega
      have i2:0≤(ly:Int)-1-v:=by omega
      have i3:(ly:Int)-1-v<(ly:Int):=by omega
      go_wp2
      go_quiet (fail)
      go_wp2
      go_ret2
      rw [HPR.out,HP.out,HUZ.out,show ((v.toNat:Nat):Int)=v by omega]
      exact⟨rfl,Drawn0.step ⟨⟨q2,rfl⟩⟩ _⟩
     ·have h1b:decide (v<(lx:Int))=true:=decide_eq_true h1
      have i0:0≤(lx:Int)-1-v:=by omega
      have i1:(lx:Int)-1-v<(lx:Int):=by omega
      have i2:0≤(ly:Int)-1-v:=by omega
      have i3:(ly:Int)-1-v<(ly:Int):=by omega
      go_wp2
      go_quiet (fail)
      go_wp2
      go_roundg (lx-(v+1).toNat)
      case measure=>have:=HG.out;omega
      case rel=>exact⟨v+1,q2+nq,by go_num,rfl,by omega,by omega,HP,⟨Nat.le_refl _⟩⟩
   ·go_wp2
    go_quiet (fail)
    clear h1b
    obtain⟨A2,lx,hlx,hcut1,hr1⟩:=cut_C HA.out HCA.out u hu0 hux
    obtain⟨C2,ly,hly,hcut2,hr2⟩:=cut_C HC.out HCB.out u hu0 huy
    have HR1:=Zd hr1
    have HLX:=Zd hlx
    have HLY:=Zd hly
    have HR2:=Zd hr2
    clear hr1 hr2 hlx hly
    go_wp2
    go_quiet (fail)
    clear hcut1 hcut2
    have habb2:decide (ly<lx)=false:=by rw [HLX.out,HLY.out,List.length_drop,List.length_drop];exact decide_eq_false (by omega)
    have HPR:=Zd (show endsM xs ys=pre (xs.drop u.toNat).reverse (ys.drop u.toNat).reverse by unfold endsM;rw [HP.out])
    have hlx:lx≤4000000000:=by rw [HLX.out,List.length_drop];omega
    have hly:ly≤4000000000:=by rw [HLY.out,List.length_drop];omega
    have hab2:¬ ly<lx:=by rw [HLX.out,HLY.out,List.length_drop,List.length_drop];omega
    have hle:lx≤ly:=by rw [HLX.out,HLY.out,List.length_drop,List.length_drop];omega
    have HUZ:=Zd (show ((endsN xs ys:Nat):Int)=u by unfold endsN;rw [HP.out];omega)
    have HUU:=Zd huy
    have HUV:=Zd hux
    clear HP HG habb hux huy hu1
    generalize xs.drop u.toNat=xd at *
    generalize ys.drop u.toNat=yd at *
    go_wp2
    obtain⟨q0,hq0⟩:∃ q0:Nat,Aside0 (q0=q0):=⟨0,⟨rfl⟩⟩
    clear hq0 q0
    go_loopg [7] lx (fun gg s7 wr=>∃ (v:Int) (q:Nat),s7 = .int .i64 v∧wr=w.drewN q∧0≤v∧v≤lx∧Aside0 (pre xd.reverse yd.reverse=v.toNat+pre (xd.reverse.drop v.toNat) (yd.reverse.drop v.toNat))∧Aside0 (lx-v.toNat≤gg))
    case atStart=>exact⟨0,_,rfl,(by rw [World.drewN_drewN,World.drewN_drewN]),by omega,by omega,⟨by simp⟩,⟨by simp⟩⟩
    case round =>
     obtain⟨v,q2,rfl,rfl,hv0,hv1,HP,HG⟩:=hrel
     have hcase:(decide (v<(lx:Int))=false∧Aside0 (pre xd.reverse yd.reverse=v.toNat))∨(v<lx∧∃ ad bd,A2=some ad∧C2=some bd∧w.cell? (ad.add ((lx:Int)-1-v).toNat)=some (.int .i64 (rd xd.reverse v))∧w.cell? (bd.add ((ly:Int)-1-v).toNat)=some (.int .i64 (rd yd.reverse v)) ∧
       ((rd xd.reverse v==rd yd.reverse v)=false∧Aside0 (pre xd.reverse yd.reverse=v.toNat)∨(rd xd.reverse v==rd yd.reverse v)=true∧Aside0 (pre xd.reverse yd.reverse=(v+1).toNat+pre (xd.reverse.drop (v+1).toNat) (yd.reverse.drop (v+1).toNat)))):=by
      have l1:xd.reverse.length=lx:=by rw [List.length_reverse];exact HLX.out.symm
      have l2:yd.reverse.length=ly:=by rw [List.length_reverse];exact HLY.out.symm
      by_cases h1:v<lx
      ·right
       have h2:v<(lx:Int):=by omega
       have h4:v<(ly:Int):=by omega
       obtain⟨ad,e1,hx1⟩:=reads_rev HR1.out v hv0 h2
       obtain⟨bd,e2,hx2⟩:=reads_rev HR2.out v hv0 h4
       refine⟨h1,ad,bd,e1,e2,hx1,hx2,?_⟩
       by_cases h3:rd xd.reverse v=rd yd.reverse v
       ·refine .inr ⟨beq_iff_eq.2 h3,⟨?_⟩⟩
        have:=pre_on (a:=xd.reverse) (b:=yd.reverse) (u:=v.toNat) (by omega) (by omega) ((rd_eq_iff hv0 (by omega) (by omega)).1 h3)
        rw [HP.out,this,show (v+1).toNat=v.toNat+1 by omega];omega
       ·exact .inl ⟨by simpa using h3,⟨by rw [HP.out,pre_off (fun h=>h3 ((rd_eq_iff hv0 (by omega) (by omega)).2 h.2.2))];rfl⟩⟩
      ·left
       exact⟨decide_eq_false h1,⟨by rw [HP.out,pre_off (fun h=>h1 (by omega))];rfl⟩⟩
     clear HP
     generalize rd xd.reverse v=cx at hcase
     generalize rd yd.reverse v=cy at hcase
     rcases hcase with ⟨h1b,HP⟩|⟨h1,ad,bd,rfl,rfl,hx1,hx2,⟨h3b,HP⟩|⟨h3b,HP⟩⟩
     ·go_wp2
      go_quiet (fail)
      go_wp2
      go_ret2
      rw [HPR.out,HP.out,HUZ.out,show ((v.toNat:Nat):Int)=v by omega]
      exact⟨rfl,Drawn0.step ⟨⟨q2,rfl⟩⟩ _⟩
     ·have h1b:decide (v<(lx:Int))=true:=decide_eq_true h1
      have i0:0≤(lx:Int)-1-v:=by omega
      have i1:(lx:Int)-1-v<(lx:Int):=by omega
      have i2:0≤(ly:Int)-1-v:=by omega
      have i3:(ly:Int)-1-v<(ly:Int):=by omega
      go_wp2
      go_quiet (fail)
      go_wp2
      go_ret2
      rw [HPR.out,HP.out,HUZ.out,show ((v.toNat:Nat):Int)=v by omega]
      exact⟨rfl,Drawn0.step ⟨⟨q2,rfl⟩⟩ _⟩
     ·have h1b:decide (v<(lx:Int))=true:=decide_eq_true h1
      have i0:0≤(lx:Int)-1-v:=by omega
      have i1:(lx:Int)-1-v<(lx:Int):=by omega
      have i2:0≤(ly:Int)-1-v:=by omega
      have i3:(ly:Int)-1-v<(ly:Int):=by omega
      go_wp2
      go_quiet (fail)
      go_wp2
      go_roundg (lx-(v+1).toNat)
      case measure=>have:=HG.out;omega
      case rel=>exact⟨v+1,q2+nq,by go_num,rfl,by omega,by omega,HP,⟨Nat.le_refl _⟩⟩
end Go.Proofs.YtfiamddinkokbaaGreat.F
end

section
namespace Go.Proofs.YtfiamddinkokbaaGreat.F
open Go.RowKit Go.Shelf Go.Proofs.YtfiamddinkokbaaGreatW.PrintWords
def pieceI (a : List Int) (lo hi : Int) : List Int := (a.take hi.toNat).drop lo.toNat
theorem pieceI_length {a : List Int} {lo hi : Int} (h0 : 0≤lo) (h1 : lo≤hi) (h2 : hi≤a.length) : ((pieceI a lo hi).length : Int)=hi-lo := by
 unfold pieceI;rw [List.length_drop,List.length_take];omega
theorem pieceI_rd {a : List Int} {lo hi : Int} (h0 : 0≤lo) (h2 : hi≤a.length) (u : Int) (hu0 : 0≤u) (hu1 : u<hi-lo) : rd a (lo+u)=rd (pieceI a lo hi) u := by
 unfold rd pieceI
 rw [List.getD_eq_getElem?_getD,List.getD_eq_getElem?_getD,List.getElem?_drop,List.getElem?_take_of_lt (by omega),show (lo+u).toNat=lo.toNat+u.toNat by omega]
theorem cut_mid_C {w : World} {A : Option Addr} {c : Nat} {xs : List Int} (h : Kd.C (Kd.int .i64) w A xs.length xs) (hc : xs.length≤c) (lo hi : Int) (h0 : 0≤lo) (h1 : lo≤hi) (h2 : hi≤xs.length) :
  ∃ (A':Option Addr) (n':Nat),n'=(pieceI xs lo hi).length∧(∀ W:World,(Instr.slice 48 (.slice A xs.length c) (some (.int .i64 lo)) (some (.int .i64 hi)) none).run Tryz.prog W = .ok (.slice A' n' (c-lo.toNat)) W) ∧
   Kd.C (Kd.int .i64) w A' n' (pieceI xs lo hi)∧n'≤c-lo.toNat:=by
 obtain⟨i0,hi0,hz0,hz1,hz2⟩:=info_parts (show (Tryz.prog.info? 3).map (fun i=>(i.zero,i.size,i.bytes))=some (some (.int .i64 0),1,8) by kernel_rfl)
 have hcut:=cut_mid (P:=Tryz.prog) 48 3 .i64 .i64 Tryz.underlying48 hi0 1 hz1 A xs.length c lo hi h0 h1 h2 hc
 have hm:=Kd.C_mid (lo:=lo.toNat) (hi:=hi.toNat) h (by omega) (by omega) hc
 have hl:hi.toNat-lo.toNat=(pieceI xs lo hi).length:=by have:=pieceI_length h0 h1 h2;omega
 refine⟨if c=lo.toNat then A else A.map (·.add (lo.toNat*1)),_,rfl,fun W=>?_,?_,?_⟩
 ·rw [hcut W,hl]
 ·exact hm
 ·rw [←hl];omega
theorem ends_quiet {A C : Option Addr} {ca cb n m : Nat} {xs ys : List Int} {w : World} (hn : n=xs.length) (hm : m=ys.length) (hA : Kd.C (Kd.int .i64) w A n xs) (hC : Kd.C (Kd.int .i64) w C m ys) (hca : n≤ca) (hcb : m≤cb) (hx : n≤4000000000) (hy : m≤4000000000) :
  Calls Tryz.prog 139 #[.slice A n ca,.slice C m cb] w fun e w'=>e = .returned (.tuple #[.int .i64 (endsN xs ys),.int .i64 (endsM xs ys)])∧∃ k,w'=w.drewN k:=by
 subst hn hm
 exact (ends_calls hA hC hca hcb hx hy).mono fun e w' ⟨he,hw⟩=>⟨he,hw.out⟩
theorem ends_le (xs ys : List Int) : endsN xs ys+endsM xs ys≤xs.length∧endsN xs ys+endsM xs ys≤ys.length := by
 have h1:=pre_le xs ys
 have h2:=pre_le (xs.drop (pre xs ys)).reverse (ys.drop (pre xs ys)).reverse
 rw [List.length_reverse,List.length_reverse,List.length_drop,List.length_drop] at h2
 unfold endsN endsM
 omega
def findF (a b : List Int) : Nat→Int→Int→Int→Int→Option (List SP)
 | 0,_,_,_,_=>none
 | s+1,a0,a1,b0,b1 =>
  if 0≤a0∧a0≤a1∧a1≤a.length∧0≤b0∧b0≤b1∧b1≤b.length then
   (if a0+endsN (pieceI a a0 a1) (pieceI b b0 b1)<a1-endsM (pieceI a a0 a1) (pieceI b b0 b1)∧b0+endsN (pieceI a a0 a1) (pieceI b b0 b1)<b1-endsM (pieceI a a0 a1) (pieceI b b0 b1) then
    (middleF (pieceI a (a0+endsN (pieceI a a0 a1) (pieceI b b0 b1)) (a1-endsM (pieceI a a0 a1) (pieceI b b0 b1))) (pieceI b (b0+endsN (pieceI a a0 a1) (pieceI b b0 b1)) (b1-endsM (pieceI a a0 a1) (pieceI b b0 b1)))).bind fun r =>
     if 0≤r.1∧0≤r.2.1∧0≤r.2.2∧a0+endsN (pieceI a a0 a1) (pieceI b b0 b1)+r.1+r.2.2≤a1∧b0+endsN (pieceI a a0 a1) (pieceI b b0 b1)+r.2.1+r.2.2≤b1 then
      (findF a b s (a0+endsN (pieceI a a0 a1) (pieceI b b0 b1)) (a0+endsN (pieceI a a0 a1) (pieceI b b0 b1)+r.1) (b0+endsN (pieceI a a0 a1) (pieceI b b0 b1)) (b0+endsN (pieceI a a0 a1) (pieceI b b0 b1)+r.2.1)).bind fun l1 =>
       (findF a b s (a0+endsN (pieceI a a0 a1) (pieceI b b0 b1)+r.1+r.2.2) (a1-endsM (pieceI a a0 a1) (pieceI b b0 b1)) (b0+endsN (pieceI a a0 a1) (pieceI b b0 b1)+r.2.1+r.2.2) (b1-endsM (pieceI a a0 a1) (pieceI b b0 b1))).bind fun l2 =>
        some (l1++diagP (a0+endsN (pieceI a a0 a1) (pieceI b b0 b1)+r.1) (b0+endsN (pieceI a a0 a1) (pieceI b b0 b1)+r.2.1) r.2.2.toNat++l2)
     else none
   else some []).bind fun mid=>some (diagP a0 b0 (endsN (pieceI a a0 a1) (pieceI b b0 b1))++mid++diagP (a1-endsM (pieceI a a0 a1) (pieceI b b0 b1)) (b1-endsM (pieceI a a0 a1) (pieceI b b0 b1)) (endsM (pieceI a a0 a1) (pieceI b b0 b1)))
  else none
set_option maxHeartbeats 8000000 in
set_option maxRecDepth 100000 in
theorem find_calls {w0 : World} {f : Nat} {A C : Option Addr} {ca cb : Nat} {a b : List Int} (hA : Kd.C (Kd.int .i64) w0 A a.length a) (hC : Kd.C (Kd.int .i64) w0 C b.length b) (hca : a.length≤ca) (hcb : b.length≤cb) (hla : a.length≤4000000000) (hlb : b.length≤4000000000) :
  ∀ (s:Nat) (a0 a1 b0 b1:Int) (r l:List SP) (w:World),findF a b s a0 a1 b0 b1=some r→Fin w0.heap.size f (.slice A a.length ca) (.slice C b.length cb) l w→Below w0.heap.size w0 w→l.length+r.length≤8000000000 →
  Calls Tryz.prog 120 #[.pointer (some ⟨f,0,none⟩),.agg #[.int .i64 a0,.int .i64 a1,.int .i64 b0,.int .i64 b1]] w fun e w' =>
   e = .returned (.tuple #[])∧Fin w0.heap.size f (.slice A a.length ca) (.slice C b.length cb) (l++r) w'∧Below w0.heap.size w w'∧Keeps 94 f w w':=by
 intro s
 induction s with
 | zero=>intro a0 a1 b0 b1 r l w h;exact absurd h (by simp [findF])
 | succ s ih0 =>
  intro a0 a1 b0 b1 r l w h hF hB hlen
  rw [findF] at h
  split at h
  case isFalse=>cases h
  case isTrue hrng =>
  obtain⟨ha0,ha1,ha2,hb0,hb1,hb2⟩:=hrng
  have ih:=Zd ih0
  obtain⟨A1,n1,hn1,hcut1,hA1,hc1⟩:=cut_mid_C hA hca a0 a1 ha0 ha1 ha2
  obtain⟨C1,m1,hm1,hcut2,hC1,hd1⟩:=cut_mid_C hC hcb b0 b1 hb0 hb1 hb2
  have hnz:(n1:Int)=a1-a0:=by rw [hn1];exact pieceI_length ha0 ha1 ha2
  have hmz:(m1:Int)=b1-b0:=by rw [hm1];exact pieceI_length hb0 hb1 hb2
  have hel:=ends_le (pieceI a a0 a1) (pieceI b b0 b1)
  rw [←hn1,←hm1] at hel
  have HEND:=fun W=>ends_quiet (A:=A1) (C:=C1) (ca:=ca-a0.toNat) (cb:=cb-b0.toNat) (w:=W) hn1 hm1
  generalize endsN (pieceI a a0 a1) (pieceI b b0 b1)=en at *
  generalize endsM (pieceI a a0 a1) (pieceI b b0 b1)=em at *
  have HH:=Zd h
  have HF:=Zd hF
  have HBB:=Zd hB
  have HL:=Zd hlen
  have HA:=Zd hA
  have HC:=Zd hC
  have HA1:=Zd hA1
  have HC1:=Zd hC1
  have HE:=Zd HEND
  have e1:n1≤4000000000:=by omega
  have e2:m1≤4000000000:=by omega
  have q0:=hF.c0
  have q1:=hF.c1
  have hflt:=hF.lt
  have hel1:=hel.1
  have hel2:=hel.2
  clear h hF hB hlen ih0 hA hC hA1 hC1 HEND hn1 hm1 hel
  go_enter Tryz.func120,Tryz.ntmps120
  go_wp2
  go_quiet ((go_at_call 139;refine Calls.quiet_of (HE.out _ (Kd.C_drewN (Kd.C_alloc (Kd.C_below HA1.out HBB.out) _) _) (Kd.C_drewN (Kd.C_alloc (Kd.C_below HC1.out HBB.out) _) _) hc1 hd1 e1 e2)))
  have hbx:((w.alloc (.cells #[.int .i64 a0,.int .i64 a1,.int .i64 b0,.int .i64 b1] 198)).drewN nq).heap[w.heap.size]? = some (.cells #[.int .i64 a0,.int .i64 a1,.int .i64 b0,.int .i64 b1] 198 (0,0)):=World.alloc_heap_new w _
  have hbel:=pw_below_drewN (below_alloc (Below.refl w.heap.size w) (.cells #[.int .i64 a0,.int .i64 a1,.int .i64 b0,.int .i64 b1] 198)) nq
  have HX:=Zd hbx
  have hne:w.heap.size≠f:=by omega
  have HF0:=Zd (HF.out.below hbel)
  have HB:=Zd (hbel.mono HBB.out.size)
  have HK:=Zd (Keeps.below (T:=94) (b:=f) hbel)
  have hwf:w.heap.size<((w.alloc (.cells #[.int .i64 a0,.int .i64 a1,.int .i64 b0,.int .i64 b1] 198)).drewN nq).heap.size:=(Array.getElem?_eq_some_iff.1 hbx).1
  clear hbx hbel q0 q1 hcut1 hcut2
  generalize (w.alloc (.cells #[.int .i64 a0,.int .i64 a1,.int .i64 b0,.int .i64 b1] 198)).drewN nq=W0 at *
  obtain⟨n3,hn3⟩:∃ n3,n3=w.heap.size:=⟨_,rfl⟩
  rw [←hn3] at HX hne hwf ⊢
  have HBW:Aside0 (w0.heap.size≤W0.heap.size):=⟨by have:=HBB.out.size;have:=HB.out.size;omega⟩
  have HRL:Aside0 (en+em≤4000000000):=⟨by omega⟩
  clear hn3
  have p0:=(blk_cell HX.out 0).trans (rfl:_=some (Value.int .i64 a0))
  have p1:=(blk_cell HX.out 1).trans (rfl:_=some (Value.int .i64 a1))
  have p2:=(blk_cell HX.out 2).trans (rfl:_=some (Value.int .i64 b0))
  have p3:=(blk_cell HX.out 3).trans (rfl:_=some (Value.int .i64 b1))
  have r0:(0:Int)≤(en:Int):=by omega
  have r1:(0:Int)≤(em:Int):=by omega
  have r2:a0+(en:Int)+em≤a1:=by omega
  have r3:b0+(en:Int)+em≤b1:=by omega
  have r4:a1≤4000000000:=by omega
  have r5:b1≤4000000000:=by omega
  have s1:b0≤8000000000:=by omega
  have s2:a0≤8000000000:=by omega
  have s3:en≤8000000000:=by omega
  have s4:em≤8000000000:=by omega
  have s5:0≤a1-(em:Int):=by omega
  have s6:0≤b1-(em:Int):=by omega
  have s7:a1-(em:Int)≤8000000000:=by omega
  have s8:b1-(em:Int)≤8000000000:=by omega
  have tk1:True:=trivial
  have tk2:True:=trivial
  have tk3:True:=trivial
  have hr:=HH.out
  obtain⟨mid,hmid,hr2⟩:=Option.bind_eq_some_iff.1 hr
  obtain rfl:=Option.some.inj hr2
  clear hr hr2 HH
  have HMID:=Zd hmid
  clear hmid
  have HLL:Aside0 (l.length+en+mid.length+em≤8000000000):=⟨by have:=HL.out;simp only [List.length_append,diagP_length] at this;omega⟩
  have hl1:l.length≤8000000000:=by have:=HLL.out;omega
  by_cases h1:a0+(en:Int)<a1-em
  ·have h1b:decide (a0+(en:Int)<a1-em)=true:=decide_eq_true h1
   by_cases h2:b0+(en:Int)<b1-em
   ·have h2b:decide (b0+(en:Int)<b1-em)=true:=decide_eq_true h2
    have hm:=HMID.out
    rw [if_pos ⟨h1,h2⟩] at hm
    obtain⟨⟨g0,g1,g2⟩,hmf,hm⟩:=Option.bind_eq_some_iff.1 hm
    simp only at hm
    split at hm
    case isFalse=>cases hm
    case isTrue hg =>
    obtain⟨hg0,hg1,hg2,hg3,hg4⟩:=hg
    obtain⟨m2,rfl⟩:=Int.eq_ofNat_of_zero_le hg2
    obtain⟨l1,hl1f,hm⟩:=Option.bind_eq_some_iff.1 hm
    obtain⟨l2,hl2f,hm⟩:=Option.bind_eq_some_iff.1 hm
    obtain rfl:=Option.some.inj hm
    rw [Int.toNat_natCast] at HLL
    have HMF:=Zd hmf
    have HL1:=Zd hl1f
    have HL2:=Zd hl2f
    have HLA:Aside0 (l.length+en+(l1.length+m2+l2.length)+em≤8000000000):=⟨by have:=HLL.out;simp only [List.length_append,diagP_length] at this;omega⟩
    clear hm HMID hmf hl1f hl2f HLL
    have HXL:=Zd (pieceI_length (a:=a) (lo:=a0+(en:Int)) (hi:=a1-(em:Int)) (by omega) (by omega) (by omega))
    have HYL:=Zd (pieceI_length (a:=b) (lo:=b0+(en:Int)) (hi:=b1-(em:Int)) (by omega) (by omega) (by omega))
    have HXR:=Zd (pieceI_rd (a:=a) (lo:=a0+(en:Int)) (hi:=a1-(em:Int)) (by omega) (by omega))
    have HYR:=Zd (pieceI_rd (a:=b) (lo:=b0+(en:Int)) (hi:=b1-(em:Int)) (by omega) (by omega))
    have u0:0≤a0+(en:Int):=by omega
    have u1:a0+(en:Int)≤a1-(em:Int):=by omega
    have u2:a1-(em:Int)≤a.length:=by omega
    have v0:0≤b0+(en:Int):=by omega
    have v1:b0+(en:Int)≤b1-(em:Int):=by omega
    have v2:b1-(em:Int)≤b.length:=by omega
    have x0:0≤a0+(en:Int)+g0:=by omega
    have x1:a0+(en:Int)+g0≤8000000000:=by omega
    have x2:0≤b0+(en:Int)+g1:=by omega
    have x3:b0+(en:Int)+g1≤8000000000:=by omega
    have x4:m2≤8000000000:=by omega
    have fk1:True:=trivial
    have fk2:True:=trivial
    go_wp2_with (first
     | (go_at_call 140;have _t:=tk1;(with_reducible refine (same_calls a0 b0 en HF0.out ha0 s2 hb0 s1 s3 hl1 HBW.out).mono ?_);rintro e W1 ⟨rfl,hf1,hb1,hk1⟩;clear tk1;have HX1:=Zd (hk1.cell HX.out (by decide) hne);clear HX p0 p1 p2 p3;have p0:=(blk_cell HX1.out 0).trans (rfl:_=some (Value.int .i64 a0));have p1:=(blk_cell HX1.out 1).trans (rfl:_=some (Value.int .i64 a1));have p2:=(blk_cell HX1.out 2).trans (rfl:_=some (Value.int .i64 b0));have p3:=(blk_cell HX1.out 3).trans (rfl:_=some (Value.int .i64 b1));have HF1:=Zd hf1;have HB1:=Zd (Below.trans HB.out hb1);have HK1:=Zd (HK.out.trans hk1);have HBW1:=Zd (Nat.le_trans HBW.out hb1.size);clear hf1 hb1 hk1 HF0 HB HK HBW)
     | (go_at_call 141;(with_reducible refine (middle_calls (B:=w0.heap.size) (f:=f) (w:=W1.alloc (.cells #[.int .i64 (a0+(en:Int)),.int .i64 (a1-(em:Int)),.int .i64 (b0+(en:Int)),.int .i64 (b1-(em:Int))] 198)) (a0+(en:Int)) (a1-(em:Int)) (b0+(en:Int)) (b1-(em:Int)) _ _ g0 g1 (m2:Int) (HF1.out.below (below_alloc (Below.refl _ _) _)) (Kd.C_below HA.out (Below.alloc (Below.trans HBB.out HB1.out) HBW1.out _)) (Kd.C_below HC.out (Below.alloc (Below.trans HBB.out HB1.out) HBW1.out _)) u0 u1 u2 v0 v1 v2 hla hlb HXL.out HYL.out HXR.out HYR.out (Nat.le_trans HBW1.out (below_alloc (Below.refl _ _) _).size) HMF.out).mono ?_);rintro e W2 ⟨⟨dd,rfl⟩,hb2⟩;have H6:=Zd ((hb2.block _ (by rw [World.size_alloc];omega)).trans (World.alloc_heap_new W1 (.cells #[.int .i64 (a0+(en:Int)),.int .i64 (a1-(em:Int)),.int .i64 (b0+(en:Int)),.int .i64 (b1-(em:Int))] 198)));have hb2':=below_step (below_alloc (Below.refl W1.heap.size W1) (.cells #[.int .i64 (a0+(en:Int)),.int .i64 (a1-(em:Int)),.int .i64 (b0+(en:Int)),.int .i64 (b1-(em:Int))] 198)) hb2;have HF2:=Zd (HF1.out.below hb2');have HB2:=Zd (Below.trans HB1.out (hb2'.mono HBW1.out));have HK2:=Zd (HK1.out.trans (Keeps.below hb2'));have HBW2:=Zd (Nat.le_trans HBW1.out hb2'.size);have HN6:=Zd (show W1.heap.size≠f from fun e=>by have:=HF1.out.lt;omega);clear hb2 hb2' HF1 HB1 HK1 HBW1 HX1 p0 p1 p2 p3;generalize W1.heap.size=n6 at *;have hn6:n6<W2.heap.size:=(Array.getElem?_eq_some_iff.1 H6.out).1;have hn6':n6≠W2.heap.size:=Nat.ne_of_lt hn6;have p0:=(blk_cell H6.out 0).trans (rfl:_=some (Value.int .i64 (a0+(en:Int))));have p1:=(blk_cell H6.out 1).trans (rfl:_=some (Value.int .i64 (a1-(em:Int))));have p2:=(blk_cell H6.out 2).trans (rfl:_=some (Value.int .i64 (b0+(en:Int))));have p3:=(blk_cell H6.out 3).trans (rfl:_=some (Value.int .i64 (b1-(em:Int)))))
     | (go_at_call 120;have _t:=fk1;(with_reducible refine (ih.out (a0+(en:Int)) (a0+(en:Int)+g0) (b0+(en:Int)) (b0+(en:Int)+g1) l1 _ (W2.alloc (.cells #[.int .i64 (a0+(en:Int)+g0),.int .i64 (b0+(en:Int)+g1),.int .i64 (m2:Int),.int .i64 dd] 217)) HL1.out (HF2.out.below (below_alloc (Below.refl _ _) _)) (Below.alloc (Below.trans HBB.out HB2.out) HBW2.out _) ?fl1).mono ?_);(case fl1=>have:=HLA.out;rw [List.length_append,diagP_length];omega);rintro e W3 ⟨rfl,hf3,hb3,hk3⟩;clear fk1;have H6':=Zd (hk3.cell ((Lib.alloc_old W2 _ n6 (Array.getElem?_eq_some_iff.1 H6.out).1).trans H6.out) (by decide) HN6.out);have H7:=Zd (hk3.cell (World.alloc_heap_new W2 _) (by decide) (fun e=>by have:=HF2.out.lt;omega));have HF3:=Zd hf3;have HB3:=Zd (Below.trans (HB2.out.alloc HBW2.out _) hb3);have HK3:=Zd ((HK2.out.alloc _).trans hk3);have HBW3:=Zd (Nat.le_trans (Nat.le_trans HBW2.out (below_alloc (Below.refl _ _) _).size) hb3.size);have HN7:=Zd (show W2.heap.size≠f from fun e=>by have:=HF2.out.lt;omega);clear hn6 hn6' hf3 hb3 hk3 HF2 HB2 HK2 HBW2 H6 p0 p1 p2 p3;generalize W2.heap.size=n7 at *;have p0:=(blk_cell H6'.out 0).trans (rfl:_=some (Value.int .i64 (a0+(en:Int))));have p1:=(blk_cell H6'.out 1).trans (rfl:_=some (Value.int .i64 (a1-(em:Int))));have p2:=(blk_cell H6'.out 2).trans (rfl:_=some (Value.int .i64 (b0+(en:Int))));have p3:=(blk_cell H6'.out 3).trans (rfl:_=some (Value.int .i64 (b1-(em:Int))));have o0:=(blk_cell H7.out 0).trans (rfl:_=some (Value.int .i64 (a0+(en:Int)+g0)));have o1:=(blk_cell H7.out 1).trans (rfl:_=some (Value.int .i64 (b0+(en:Int)+g1)));have o2:=(blk_cell H7.out 2).trans (rfl:_=some (Value.int .i64 (m2:Int)));have o3:=(blk_cell H7.out 3).trans (rfl:_=some (Value.int .i64 dd)))
     | (go_at_call 140;have _t:=tk2;have _t2:=H7;(with_reducible refine (same_calls (a0+(en:Int)+g0) (b0+(en:Int)+g1) m2 HF3.out x0 x1 x2 x3 x4 ?sl2 HBW3.out).mono ?_);(case sl2=>have:=HLA.out;simp only [List.length_append,diagP_length];omega);rintro e W4 ⟨rfl,hf4,hb4,hk4⟩;clear tk2;have H6'':=Zd (hk4.cell H6'.out (by decide) HN6.out);have H7'':=Zd (hk4.cell H7.out (by decide) HN7.out);have HF4:=Zd hf4;have HB4:=Zd (Below.trans HB3.out hb4);have HK4:=Zd (HK3.out.trans hk4);have HBW4:=Zd (Nat.le_trans HBW3.out hb4.size);clear hf4 hb4 hk4 HF3 HB3 HK3 HBW3 H6' H7 p0 p1 p2 p3 o0 o1 o2 o3;have p0:=(blk_cell H6''.out 0).trans (rfl:_=some (Value.int .i64 (a0+(en:Int))));have p1:=(blk_cell H6''.out 1).trans (rfl:_=some (Value.int .i64 (a1-(em:Int))));have p2:=(blk_cell H6''.out 2).trans (rfl:_=some (Value.int .i64 (b0+(en:Int))));have p3:=(blk_cell H6''.out 3).trans (rfl:_=some (Value.int .i64 (b1-(em:Int))));have o0:=(blk_cell H7''.out 0).trans (rfl:_=some (Value.int .i64 (a0+(en:Int)+g0)));have o1:=(blk_cell H7''.out 1).trans (rfl:_=some (Value.int .i64 (b0+(en:Int)+g1)));have o2:=(blk_cell H7''.out 2).trans (rfl:_=some (Value.int .i64 (m2:Int)));have o3:=(blk_cell H7''.out 3).trans (rfl:_=some (Value.int .i64 dd)))
     | (go_at_call 120;have _t:=fk2;(with_reducible refine (ih.out (a0+(en:Int)+g0+(m2:Int)) (a1-(em:Int)) (b0+(en:Int)+g1+(m2:Int)) (b1-(em:Int)) l2 _ W4 HL2.out HF4.out (Below.trans HBB.out HB4.out) ?fl2).mono ?_);(case fl2=>have:=HLA.out;simp only [List.length_append,diagP_length];omega);rintro e W5 ⟨rfl,hf5,hb5,hk5⟩;clear fk2;have H65:=Zd (hk5.cell H6''.out (by decide) HN6.out);have HF5:=Zd hf5;have HB5:=Zd (Below.trans HB4.out hb5);have HK5:=Zd (HK4.out.trans hk5);have HBW5:=Zd (Nat.le_trans HBW4.out hb5.size);clear hf5 hb5 hk5 HF4 HB4 HK4 HBW4 H6'' H7'' p0 p1 p2 p3 o0 o1 o2 o3;have p0:=(blk_cell H65.out 0).trans (rfl:_=some (Value.int .i64 (a0+(en:Int))));have p1:=(blk_cell H65.out 1).trans (rfl:_=some (Value.int .i64 (a1-(em:Int))));have p2:=(blk_cell H65.out 2).trans (rfl:_=some (Value.int .i64 (b0+(en:Int))));have p3:=(blk_cell H65.out 3).trans (rfl:_=some (Value.int .i64 (b1-(em:Int)))))
     | (go_at_call 140;have _t:=tk3;have _t2:=HF5;(with_reducible refine (same_calls (a1-(em:Int)) (b1-(em:Int)) em HF5.out s5 s7 s6 s8 s4 ?sl3 HBW5.out).mono ?_);(case sl3=>have:=HLA.out;simp only [List.length_append,diagP_length];omega);rintro e W6 ⟨rfl,hf6,hb6,hk6⟩;clear tk3))
    go_end0
    refine⟨rfl,?_,Below.trans HB5.out hb6,HK5.out.trans hk6⟩
    have e_:l++(diagP a0 b0 en++(l1++diagP (a0+(en:Int)+g0) (b0+(en:Int)+g1) (m2:Int).toNat++l2)++diagP (a1-(em:Int)) (b1-(em:Int)) em)=l++diagP a0 b0 en++l1++diagP (a0+(en:Int)+g0) (b0+(en:Int)+g1) m2++l2++diagP (a1-(em:Int)) (b1-(em:Int)) em:=by simp only [List.append_assoc,Int.toNat_natCast]
    rw [e_];exact hf6
   ·have h2b:decide (b0+(en:Int)<b1-em)=false:=decide_eq_false h2
    have hm:=HMID.out
    rw [if_neg (by omega)] at hm
    obtain rfl:=Option.some.inj hm
    clear hm HMID
    have hl2:(l++diagP a0 b0 en).length≤8000000000:=by have:=HLL.out;rw [List.length_append,diagP_length];omega
    have HL2:=Zd hl2
    clear hl2
    go_wp2_with (first
     | (go_at_call 140;have _t:=tk1;(with_reducible refine (same_calls a0 b0 en HF0.out ha0 s2 hb0 s1 s3 hl1 HBW.out).mono ?_);rintro e W1 ⟨rfl,hf1,hb1,hk1⟩;clear tk1;have HX1:=Zd (hk1.cell HX.out (by decide) hne);clear HX p0 p1 p2 p3;have p0:=(blk_cell HX1.out 0).trans (rfl:_=some (Value.int .i64 a0));have p1:=(blk_cell HX1.out 1).trans (rfl:_=some (Value.int .i64 a1));have p2:=(blk_cell HX1.out 2).trans (rfl:_=some (Value.int .i64 b0));have p3:=(blk_cell HX1.out 3).trans (rfl:_=some (Value.int .i64 b1));have HF1:=Zd hf1;have HB1:=Zd (Below.trans HB.out hb1);have HK1:=Zd (HK.out.trans hk1);have HBW1:=Zd (Nat.le_trans HBW.out hb1.size);clear hf1 hb1 hk1 HF0 HB HK HBW)
     | (go_at_call 140;have _t:=tk2;(with_reducible refine (same_calls (a1-(em:Int)) (b1-(em:Int)) em (HF1.out.below (below_alloc (Below.refl _ _) _)) s5 s7 s6 s8 s4 HL2.out (Nat.le_trans HBW1.out (below_alloc (Below.refl _ _) _).size)).mono ?_);rintro e W2 ⟨rfl,hf2,hb2,hk2⟩;clear tk2))
    go_end0
    refine⟨rfl,?_,Below.trans (HB1.out.alloc HBW1.out _) hb2,(HK1.out.alloc _).trans hk2⟩
    rw [List.append_nil,←List.append_assoc];exact hf2
  ·have h1b:decide (a0+(en:Int)<a1-em)=false:=decide_eq_false h1
   have hm:=HMID.out
   rw [if_neg (by omega)] at hm
   obtain rfl:=Option.some.inj hm
   clear hm HMID
   have hl2:(l++diagP a0 b0 en).length≤8000000000:=by have:=HLL.out;rw [List.length_append,diagP_length];omega
   have HL2:=Zd hl2
   clear hl2
   go_wp2_with (first
    | (go_at_call 140;have _t:=tk1;(with_reducible refine (same_calls a0 b0 en HF0.out ha0 s2 hb0 s1 s3 hl1 HBW.out).mono ?_);rintro e W1 ⟨rfl,hf1,hb1,hk1⟩;clear tk1;have HX1:=Zd (hk1.cell HX.out (by decide) hne);clear HX p0 p1 p2 p3;have p0:=(blk_cell HX1.out 0).trans (rfl:_=some (Value.int .i64 a0));have p1:=(blk_cell HX1.out 1).trans (rfl:_=some (Value.int .i64 a1));have p2:=(blk_cell HX1.out 2).trans (rfl:_=some (Value.int .i64 b0));have p3:=(blk_cell HX1.out 3).trans (rfl:_=some (Value.int .i64 b1));have HF1:=Zd hf1;have HB1:=Zd (Below.trans HB.out hb1);have HK1:=Zd (HK.out.trans hk1);have HBW1:=Zd (Nat.le_trans HBW.out hb1.size);clear hf1 hb1 hk1 HF0 HB HK HBW)
    | (go_at_call 140;have _t:=tk2;(with_reducible refine (same_calls (a1-(em:Int)) (b1-(em:Int)) em (HF1.out.below (below_alloc (Below.refl _ _) _)) s5 s7 s6 s8 s4 HL2.out (Nat.le_trans HBW1.out (below_alloc (Below.refl _ _) _).size)).mono ?_);rintro e W2 ⟨rfl,hf2,hb2,hk2⟩;clear tk2))
   go_end0
   refine⟨rfl,?_,Below.trans (HB1.out.alloc HBW1.out _) hb2,(HK1.out.alloc _).trans hk2⟩
   rw [List.append_nil,←List.append_assoc];exact hf2
def matchF (a b : List Int) : Option (List SP) := findF a b (a.length+b.length+1) 0 a.length 0 b.length
set_option maxHeartbeats 4000000 in
set_option maxRecDepth 100000 in
theorem match_calls (A0 : Option Addr) (c0 : Nat) (l0 : List Int) (A1 : Option Addr) (c1 : Nat) (l1 : List Int) (r : List SP) (w : World) (hr0 : Kd.C (Kd.int .i64) w A0 l0.length l0) (hc0 : l0.length≤c0) (hr1 : Kd.C (Kd.int .i64) w A1 l1.length l1) (hc1 : l1.length≤c1)
  (h:(if l0.length≤4000000000∧l1.length≤4000000000 then (matchF l0 l1).bind (fun r=>if r.length≤8000000000 then some r else none) else none)=some r) :
  Calls Tryz.prog 83 #[.slice A0 l0.length c0,.slice A1 l1.length c1] w fun e w'=>∃ v0_:Value,e = .returned (v0_)∧Kd.R k94 94 w' w.heap.size (fun _=>True) v0_ r∧Below w.heap.size w w':=by
 split at h
 case isFalse=>cases h
 case isTrue hl =>
 obtain⟨r',hm,h⟩:=Option.bind_eq_some_iff.1 h
 split at h
 case isFalse=>cases h
 case isTrue hrl =>
 obtain rfl:=Option.some.inj h
 have hf:Fin w.heap.size w.heap.size (.slice A0 l0.length c0) (.slice A1 l1.length c1) [] (w.alloc (.cells #[.slice A0 l0.length c0,.slice A1 l1.length c1,.slice none 0 0] 195)):=⟨_,Nat.le_refl _,World.alloc_heap_new w _,Kd.R_nil _ _ _ _ _⟩
 have hb:=below_alloc (Below.refl w.heap.size w) (.cells #[.slice A0 l0.length c0,.slice A1 l1.length c1,.slice none 0 0] 195)
 have HC:=Zd (find_calls hr0 hr1 hc0 hc1 hl.1 hl.2 _ 0 l0.length 0 l1.length r' [] _ hm hf hb (by simpa using hrl))
 have HB:=Zd hb
 clear hf hb hm hr0 hr1 h
 go_enter Tryz.func83,Tryz.ntmps83
 go_wp2_with (first|(go_at_call 120;refine HC.out.mono ?_;rintro e w1 ⟨rfl,⟨v,hf0,hf1,hf2⟩,hb1,hk1⟩;have c2:=(blk_cell hf1 2).trans (rfl:_=some v);have HR:=Zd hf2;have HB1:=Zd (Below.trans HB.out hb1);obtain⟨Av,cv,rfl⟩:=Kd.R_slice hf2;clear hf0 hf1 hf2 hb1 hk1))
 go_ret
 exact⟨_,rfl,Kd.R_mono HR.out (fun _ _=>trivial),HB1.out⟩
end Go.Proofs.YtfiamddinkokbaaGreat.F
end

section
namespace Go.Proofs.YtfiamddinkokbaaGreat
open Go.RowKit Go.Proofs.YtfiamddinkokbaaGreatW.PrintWords
def Ev {α : Type} (F : Nat→Option α) (v : α) : Prop := ∃ K,∀ k,K≤k→F k=some v
namespace Ev
variable {α β : Type} {F G : Nat→Option α} {H : Nat→α→Option β} {v a : α} {b : β}
theorem get (h : Ev F v) : ∃ k,F k=some v := let ⟨K,hK⟩ := h;⟨K,hK K (Nat.le_refl K)⟩
theorem val {x : α} (h : x=v) : Ev (fun _=>some x) v := ⟨0,fun _ _=>by rw [h]⟩
theorem const {o : Option α} (h : o=some v) : Ev (fun _=>o) v := ⟨0,fun _ _=>h⟩
theorem of_mono (hm : ∀ k,LeO (F k) (F (k+1))) {k : Nat} (h : F k=some v) : Ev F v := ⟨k,fun j hj=>by
 induction hj with
 | refl=>exact h
 | step _ ih=>exact hm _ _ ih⟩
theorem succ (h : Ev (fun k=>F (k+1)) v) : Ev F v := let ⟨K,hK⟩ := h;⟨K+1,fun k hk=>by
 obtain⟨j,rfl⟩:∃ j,k=j+1:=⟨k-1,by omega⟩
 exact hK j (by omega)⟩
theorem pos {c : Prop} [Decidable c] (hc : c) (h : Ev F v) : Ev (fun k=>if c then F k else G k) v := by simpa only [if_pos hc] using h
theorem neg {c : Prop} [Decidable c] (hc : ¬ c) (h : Ev G v) : Ev (fun k=>if c then F k else G k) v := by simpa only [if_neg hc] using h
theorem bind {F : Nat→Option α} (h : Ev F a) (h' : Ev (fun k=>H k a) b) : Ev (fun k=>(F k).bind (H k)) b := by
 obtain⟨K,hK⟩:=h
 obtain⟨L,hL⟩:=h'
 refine⟨max K L,fun k hk=>?_⟩
 show (F k).bind (H k)=some b
 rw [hK k (by omega)]
 exact hL k (by omega)
theorem cast (h : Ev F a) (e : a=v) : Ev F v := e▸h
end Ev
theorem wrap_in {n : Int} (h0 : -9223372036854775808≤n) (h1 : n≤9223372036854775807) : wrap64 n=n := by unfold wrap64;omega
theorem size_data (s : ByteArray) : s.data.toList.length=s.size := Array.length_toList
theorem bytes_toList (s : ByteArray) : s.toList=s.data.toList := by
 exact ByteArray.toList_eq s
theorem bytes_bt (s : ByteArray) (i : Int) (xs ys : List UInt8) (c : UInt8) (h : s.data.toList=xs++c::ys) (hi : i=xs.length) : bt s i=(c.toNat : Int) := by
 have hs:xs.length<s.size:=by rw [←size_data,h];simp
 subst hi
 unfold bt
 rw [dif_pos (by simpa using hs)]
 have:s.data.toList[xs.length]? = some c:=by rw [h];simp
 have h2:=getElem?_byte s xs.length hs
 rw [this] at h2
 have h3:s[xs.length]=c:=(Option.some.inj h2).symm
 simp only [Int.toNat_natCast,h3]
theorem size_toB (l : List UInt8) : (toB l).size=l.length := by rw [←size_data,data_toB]
theorem bytes_ext {a b : ByteArray} (h : a.data.toList=b.data.toList) : a=b := by rw [←toB_data a,h,toB_data]
theorem rdOf_at {α : Type} (d : α) (l : List α) (i : Int) (xs ys : List α) (c : α) (h : l=xs++c::ys) (hi : i=xs.length) : rdOf d l i=c := by
 subst h hi
 unfold rdOf
 simp [Int.toNat_natCast,List.getD_eq_getElem?_getD]
end Go.Proofs.YtfiamddinkokbaaGreat
end

section
namespace Go.Proofs.YtfiamddinkokbaaGreat.F
open Go.RowKit Go.Proofs.YtfiamddinkokbaaGreatW.PrintWords Go.Proofs.YtfiamddinkokbaaGreatW.PrintLast Go.Proofs.YtfiamddinkokbaaGreatW.PrintMore
attribute [local go_sem] max2_int min2_int max_two min_two max_three min_three max_four min_four



def lines_Run.f (a0 : ByteArray) : Option Int := if a0.size≤4000000000 then some ((runL a0.data.toList : Nat) : Int) else none
theorem lines_Run.calls (a0 : ByteArray) (r : Int) (w : World) (h : lines_Run.f a0=some r) :
  Calls Tryz.prog 98 #[.string a0] w fun e w'=>e = .returned (.int .i64 r)∧Below w.heap.size w w':=by
 exact ext_run a0 r w h
mutual
def lines_Longest.l0 : Nat→Int→List (List ByteArray)→Int→Int→Option (Int)
 | 0,_,_,_,_=>none
 | k+1,x3,x8,x9,x10=>if x10<x9 then (if 0≤x10 then (if x10<(x8.length:Int) then (lines_Longest.l1 k x3 x8 x9 x10 (rd_L5 x8 x10) ((rd_L5 x8 x10).length:Int) 0) else (none)) else (none)) else (some x3)
def lines_Longest.l1 : Nat→Int→List (List ByteArray)→Int→Int→List ByteArray→Int→Int→Option (Int)
 | 0,_,_,_,_,_,_,_=>none
 | k+1,x3,x8,x9,x10,x14,x15,x16=>if x16<x15 then (if 0≤x16 then (if x16<(x14.length:Int) then ((lines_Run.f (rdOf ByteArray.empty x14 x16)).bind fun t117=>(lines_Longest.l1 k (mx x3 t117) x8 x9 x10 x14 x15 (wrap64 (x16+1)))) else (none)) else (none)) else (lines_Longest.l0 k x3 x8 x9 (wrap64 (x10+1)))
end
def lines_Longest.f (k : Nat) (l0 : List (List ByteArray)) : Option (Int) := lines_Longest.l0 k 0 l0 (l0.length : Int) 0
theorem lines_Longest.mono_l : ∀ k,(∀ y0 y1 y2 y3,LeO (lines_Longest.l0 k y0 y1 y2 y3) (lines_Longest.l0 (k+1) y0 y1 y2 y3))∧(∀ y0 y1 y2 y3 y4 y5 y6,LeO (lines_Longest.l1 k y0 y1 y2 y3 y4 y5 y6) (lines_Longest.l1 (k+1) y0 y1 y2 y3 y4 y5 y6))
 | 0=>⟨fun _ _ _ _ r h=>by simp [lines_Longest.l0] at h,fun _ _ _ _ _ _ _ r h=>by simp [lines_Longest.l1] at h⟩
 | k+1=>by
  obtain⟨ih0,ih1⟩:=lines_Longest.mono_l k
  refine⟨?_,?_⟩
  ·intro y0 y1 y2 y3
   unfold lines_Longest.l0
   repeat' first
   | (with_reducible exact ih0 _ _ _ _)
   | (with_reducible exact ih1 _ _ _ _ _ _ _)
   | (with_reducible exact LeO.refl _)
   | (with_reducible exact LeO.none _)
   | (with_reducible refine LeO.ite ?_ ?_)
   | (with_reducible refine LeO.bind ?_ (fun _=>?_))
   | exact ih0 _ _ _ _
   | exact ih1 _ _ _ _ _ _ _
   | exact LeO.none _
   | refine LeO.ite ?_ ?_
   | refine LeO.bind ?_ (fun _=>?_)
  ·intro y0 y1 y2 y3 y4 y5 y6
   unfold lines_Longest.l1
   repeat' first
   | (with_reducible exact ih0 _ _ _ _)
   | (with_reducible exact ih1 _ _ _ _ _ _ _)
   | (with_reducible exact LeO.refl _)
   | (with_reducible exact LeO.none _)
   | (with_reducible refine LeO.ite ?_ ?_)
   | (with_reducible refine LeO.bind ?_ (fun _=>?_))
   | exact ih0 _ _ _ _
   | exact ih1 _ _ _ _ _ _ _
   | exact LeO.none _
   | refine LeO.ite ?_ ?_
   | refine LeO.bind ?_ (fun _=>?_)
theorem lines_Longest.mono : ∀ a0 k,LeO (lines_Longest.f k a0) (lines_Longest.f (k+1) a0) := by
 intro a0 k
 obtain⟨ih0,ih1⟩:=lines_Longest.mono_l k
 unfold lines_Longest.f
 repeat' first
   | (with_reducible exact ih0 _ _ _ _)
   | (with_reducible exact ih1 _ _ _ _ _ _ _)
   | (with_reducible exact LeO.refl _)
   | (with_reducible exact LeO.none _)
   | (with_reducible refine LeO.ite ?_ ?_)
   | (with_reducible refine LeO.bind ?_ (fun _=>?_))
   | exact ih0 _ _ _ _
   | exact ih1 _ _ _ _ _ _ _
   | exact LeO.none _
   | refine LeO.ite ?_ ?_
   | refine LeO.bind ?_ (fun _=>?_)
set_option maxHeartbeats 8000000 in
set_option maxRecDepth 100000 in
theorem lines_Longest.calls (k : Nat) (A0 : Option Addr) (c0 : Nat) (l0 : List (List ByteArray)) (r : Int) (w : World) (hr0 : Kd.C (Kd.slice 9 Kd.string) w A0 l0.length l0) (hc0 : l0.length≤c0) (h : lines_Longest.f k l0=some r) :
  Calls Tryz.prog 121 #[.slice A0 l0.length c0] w fun e w'=>e = .returned (.int .i64 r)∧Below w.heap.size w w':=by
 have HR0:=Zd hr0
 have HC0:=Zd hc0
 clear hr0 hc0
 have HB:=Zd (Below.refl w.heap.size w)
 have H:(lines_Longest.l0 k 0 l0 (l0.length:Int) 0)=some r:=h
 clear h
 have H':=Zd H
 clear H
 go_enter Tryz.func121,Tryz.ntmps121
 go_wp2
 go_loopg [3,10] k (fun kq v3 v10 w'=>∃ (x3_1:Int) (x10_1:Int),v3 = .int .i64 x3_1∧v10 = .int .i64 x10_1∧Aside0 (lines_Longest.l0 kq x3_1 l0 (l0.length:Int) x10_1=some r)∧Aside0 (kq≤k)∧Aside0 (Below w.heap.size w w'))
 case atStart=>exact⟨(0),(0),(by first|rfl|(simp;done)|(simp [*];done)),(by first|rfl|(simp;done)|(simp [*];done)),H',⟨Nat.le_refl _⟩,⟨by repeat (first|(with_reducible first|exact HB.out|apply below_alloc|apply pw_below_drewN|apply below_drew1)|exact HB.out)⟩⟩
 case round =>
  clear H'
  try clear c1
  obtain⟨x3_1,x10_1,rfl,rfl,HA,HK1,HB⟩:=hrel
  cases gk with
  | zero=>exact absurd HA.out (by simp [lines_Longest.l0])
  | succ k1 =>
   have H:=HA.out
   clear HA
   simp only [lines_Longest.l0] at H
   by_cases c2:x10_1<(l0.length:Int)
   ·rw [if_pos c2] at H
    have c2b0:decide (x10_1<(l0.length:Int))=true:=decide_eq_true c2
    clear c2
    by_cases c3:0≤x10_1
    ·rw [if_pos c3] at H
     have c3b0:decide (0≤x10_1)=true:=decide_eq_true c3
     clear c3
     by_cases c4:x10_1<(l0.length:Int)
     ·rw [if_pos c4] at H
      have c4b0:decide (x10_1<(l0.length:Int))=true:=decide_eq_true c4
      clear c4
      have H':=Zd H
      clear H
      have p115:0≤(x10_1:Int):=Zo
      have q115:x10_1<(l0.length:Int):=Zo
      obtain⟨ad115,A115_0,c115_0,e115,hx115_0,hl115_0,hi115_0⟩:=at_L5 HR0.out x10_1 p115 q115
      cases e115
      replace hx115_0:=Zx HB rfl hx115_0
      have HR115_0:=Zd hi115_0
      have HC115_0:=Zd hl115_0
      clear hi115_0 hl115_0
      replace p115:=eq_true p115
      replace q115:=eq_true q115
      go_wp2
      go_loopg [3,16] k1 (fun kq v3 v16 w'=>∃ (x3_2:Int) (x16_2:Int),v3 = .int .i64 x3_2∧v16 = .int .i64 x16_2∧Aside0 (lines_Longest.l1 kq x3_2 l0 (l0.length:Int) x10_1 (rd_L5 l0 x10_1) ((rd_L5 l0 x10_1).length:Int) x16_2=some r)∧Aside0 (kq≤k1)∧Aside0 (Below w.heap.size w w'))
      case atStart=>exact⟨(x3_1),(0),(by first|rfl|(simp;done)|(simp [*];done)),(by first|rfl|(simp;done)|(simp [*];done)),H',⟨Nat.le_refl _⟩,⟨by repeat (first|(with_reducible first|exact HB.out|apply below_alloc|apply pw_below_drewN|apply below_drew1)|exact HB.out)⟩⟩
      case round =>
       clear H'
       try clear c1
       try clear p1
       try clear q1
       try clear hx1
       try clear c2
       try clear c2b0
       try clear p2
       try clear c3
       try clear c3b0
       try clear c4
       try clear c4b0
       try clear hx115_0
       try clear p115
       try clear q115
       obtain⟨x3_2,x16_2,rfl,rfl,HA,HK2,HB⟩:=hrel
       cases gk with
       | zero=>exact absurd HA.out (by simp [lines_Longest.l1])
       | succ k2 =>
        have H:=HA.out
        clear HA
        simp only [lines_Longest.l1] at H
        by_cases c5:x16_2<((rd_L5 l0 x10_1).length:Int)
        ·rw [if_pos c5] at H
         have c5b0:decide (x16_2<((rd_L5 l0 x10_1).length:Int))=true:=decide_eq_true c5
         clear c5
         by_cases c6:0≤x16_2
         ·rw [if_pos c6] at H
          have c6b0:decide (0≤x16_2)=true:=decide_eq_true c6
          clear c6
          by_cases c7:x16_2<((rd_L5 l0 x10_1).length:Int)
          ·rw [if_pos c7] at H
           have c7b0:decide (x16_2<((rd_L5 l0 x10_1).length:Int))=true:=decide_eq_true c7
           clear c7
           replace H:=Option.bind_eq_some_iff.mp H
           obtain⟨t117,A80,H⟩:=H
           replace H:(lines_Longest.l1 k2 (mx x3_2 t117) l0 (l0.length:Int) x10_1 (rd_L5 l0 x10_1) ((rd_L5 l0 x10_1).length:Int) (wrap64 (x16_2+1)))=some r:=H
           have A8:=Zd A80
           clear A80
           obtain⟨ji9,hji9⟩:∃ j_:Int,(mx x3_2 t117)=j_:=⟨_,rfl⟩
           replace H:(lines_Longest.l1 k2 ji9 l0 (l0.length:Int) x10_1 (rd_L5 l0 x10_1) ((rd_L5 l0 x10_1).length:Int) (wrap64 (x16_2+1)))=some r:=by first|(rw [hji9] at H;exact H)|(simp only [hji9] at H ⊢;exact H)
           (try rw [hji9] at A8)
           have hji9_:(if x3_2<t117 then t117 else x3_2)=ji9:=hji9
           have H':=Zd H
           clear H
           have p116:0≤(x16_2:Int):=Zo
           have q116:x16_2<((rd_L5 l0 x10_1).length:Int):=Zo
           obtain⟨ad116,e116,hx116_0⟩:=Kd.at_string HR115_0.out x16_2 p116 q116
           cases e116
           replace hx116_0:=Zx HB rfl hx116_0
           replace p116:=eq_true p116
           replace q116:=eq_true q116
           go_wp2_with (first|((with_reducible refine gate_callee (f:=98) rfl ?_);refine goesL_ (some 22) rfl rfl Tryz.func98 (by kernel_rfl) rfl #[.string (rdOf ByteArray.empty (rd_L5 l0 x10_1) x16_2)] rfl Zl ?_;(with_reducible refine (lines_Run.calls (rdOf ByteArray.empty (rd_L5 l0 x10_1) x16_2) t117 _ A8.out).mono ?_);rintro e w10 ⟨rfl,hb⟩;refine⟨_,rfl,?_⟩;have n0_:=Zd (below_step Zb hb);clear HB;have HB:=n0_;clear n0_;(try clear hb);(try clear hb2);(try clear hk);(try clear hi)))
           go_roundg k2
           case measure=>have:=HK1.out;have:=HK2.out;omega
           case rel=>exact⟨(ji9),(wrap64 (x16_2+1)),(by first|rfl|(simp;done)|(simp only [←hji9]<;>(first|rfl|simp))|(simp [*];done)),(by first|rfl|(simp;done)|(simp [*];done)),H',⟨by have:=HK1.out;have:=HK2.out;omega⟩,⟨by repeat (first|(with_reducible first|exact HB.out|apply below_alloc|apply pw_below_drewN|apply below_drew1)|exact HB.out)⟩⟩
          ·rw [if_neg c7] at H
           exact absurd H (by simp)
         ·rw [if_neg c6] at H
          exact absurd H (by simp)
        ·rw [if_neg c5] at H
         have c5b0:decide (x16_2<((rd_L5 l0 x10_1).length:Int))=false:=decide_eq_false c5
         clear c5
         have H':=Zd H
         clear H
         go_wp2
         go_roundg k2
         case measure=>have:=HK1.out;have:=HK2.out;omega
         case rel=>exact⟨(x3_2),(wrap64 (x10_1+1)),(by first|rfl|(simp;done)|(simp [*];done)),(by first|rfl|(simp;done)|(simp [*];done)),H',⟨by have:=HK1.out;have:=HK2.out;omega⟩,⟨by repeat (first|(with_reducible first|exact HB.out|apply below_alloc|apply pw_below_drewN|apply below_drew1)|exact HB.out)⟩⟩
     ·rw [if_neg c4] at H
      exact absurd H (by simp)
    ·rw [if_neg c3] at H
     exact absurd H (by simp)
   ·rw [if_neg c2] at H
    have c2b0:decide (x10_1<(l0.length:Int))=false:=decide_eq_false c2
    clear c2
    obtain rfl:=Option.some.inj H
    go_wp2
    go_ret
    exact⟨by first|rfl|(simp [errW_none,errW_some]<;>rfl)|(simp [*,errW_none,errW_some]<;>rfl),by repeat (first|(with_reducible first|exact HB.out|apply below_alloc|apply pw_below_drewN|apply below_drew1)|exact HB.out)⟩
def lines_Split.f (a0 : ByteArray) : Option (List ByteArray) := if a0.size≤4000000000 then some (splitB a0) else none
theorem lines_Split.calls (a0 : ByteArray) (r : List ByteArray) (w : World) (h : lines_Split.f a0=some r) :
  Calls Tryz.prog 40 #[.string a0] w fun e w'=>∃ v0_:Value,e = .returned (v0_)∧Kd.R Kd.string 9 w' w.heap.size (fun _=>True) v0_ r∧Below w.heap.size w w':=by
 exact ext_split a0 r w h
end Go.Proofs.YtfiamddinkokbaaGreat.F
end

section
namespace Go.Proofs.YtfiamddinkokbaaGreat.F
open Go.RowKit Go.Proofs.YtfiamddinkokbaaGreatW.PrintWords Go.Proofs.YtfiamddinkokbaaGreatW.PrintLast Go.Proofs.YtfiamddinkokbaaGreatW.PrintMore
theorem takeLine_line : ∀ (p : List UInt8) (rest : List UInt8),(10 : UInt8)∉p→takeLine (p++10::rest)=p++[10]∧dropLine (p++10::rest)=rest
 | [],rest,_=>by simp [takeLine,dropLine]
 | c::p,rest,h=>by
  have hc:c≠10:=fun e=>h (by simp [e])
  have ih:=takeLine_line p rest (fun e=>h (by simp [e]))
  simp [takeLine,dropLine,hc,ih.1,ih.2]
theorem splitL_line (p : List UInt8) (rest : List UInt8) (h : (10 : UInt8)∉p) : splitL (p++10::rest)=(p++[10])::splitL rest := by
 rw [splitL_next _ (by simp),(takeLine_line p rest h).1,(takeLine_line p rest h).2]
theorem splitL_last : ∀ (p : List UInt8),p≠[]→(10 : UInt8)∉p→splitL p=[p]
 | [],hp,_=>absurd rfl hp
 | c::p,_,h=>by
  have hc:c≠10:=fun e=>h (by simp [e])
  by_cases hp:p=[]
  ·subst hp;simp [splitL,hc]
  ·have ih:=splitL_last p hp (fun e=>h (by simp [e]))
   simp [splitL,hc,ih]
def runI (s : ByteArray) : Int := (runL s.data.toList : Nat)
theorem cut_snoc (c : UInt8) : ∀ l : List UInt8,l.length=(l.takeWhile (· == c)).length+(cutL c l).length := by
 intro l
 have:=congrArg List.length (List.takeWhile_append_dropWhile (p:=fun x=>x==c) (l:=l))
 rw [List.length_append] at this
 exact this.symm
def longI (l : List ByteArray) (n : Int) : Int := l.foldl (fun n s=>mx n (runI s)) n
theorem lines_run (a : ByteArray) (hs : a.size≤4000000000) : lines_Run.f a=some (runI a) := by unfold lines_Run.f;rw [if_pos hs];rfl
theorem lines_split (a : ByteArray) (hs : a.size≤4000000000) : lines_Split.f a=some (splitB a) := by unfold lines_Split.f;rw [if_pos hs]
def longAll (ls : List (List ByteArray)) (n : Int) : Int := ls.foldl (fun n l=>longI l n) n
theorem lines_longest_in (ls : List (List ByteArray)) (hN : ls.length≤4000000000) (hn : ∀ l∈ls,l.length≤4000000000) (hs : ∀ l∈ls,∀ s∈l,s.size≤4000000000) :
  ∀ (rest done:List (List ByteArray)) (x i:Int),ls=done++rest→i=done.length→Ev (fun k=>lines_Longest.l0 k x ls (ls.length:Int) i) (longAll rest x)
 | [],done,x,i,hl,ei=>by
  refine Ev.succ ?_
  simp only [lines_Longest.l0]
  refine Ev.neg (by rw [hl];simp;omega) (Ev.val rfl)
 | l::rest,done,x,i,hl,ei=>by
  have hsz:ls.length=done.length+(rest.length+1):=by rw [hl];simp
  have hw:wrap64 (i+1)=i+1:=wrap_in (by omega) (by omega)
  have hb:rd_L5 ls i=l:=by
   unfold rd_L5;subst ei hl;simp [List.getD_eq_getElem?_getD]
  refine Ev.succ ?_
  simp only [lines_Longest.l0,hb]
  refine Ev.pos (by omega) (Ev.pos (by omega) (Ev.pos (by omega) ?_))
  have hm:l∈ls:=by rw [hl];simp
  have inner:∀ (r d:List ByteArray) (x j:Int),l=d++r→j=d.length→Ev (fun k=>lines_Longest.l1 k x ls (ls.length:Int) i l (l.length:Int) j) (longAll rest (longI r x)):=by
   intro r
   induction r with
   | nil =>
    intro d x j hd ej
    refine Ev.succ ?_
    simp only [lines_Longest.l1,hw]
    refine Ev.neg (by rw [hd];simp;omega) ?_
    exact lines_longest_in ls hN hn hs rest (done++[l]) _ (i+1) (by rw [hl];simp) (by simp;omega)
   | cons s r ih =>
    intro d x j hd ej
    have hll:=hn l hm
    have hsl:l.length=d.length+(r.length+1):=by rw [hd];simp
    have hwj:wrap64 (j+1)=j+1:=wrap_in (by omega) (by omega)
    have hbj:rdOf ByteArray.empty l j=s:=rdOf_at _ l j d r s hd ej
    refine Ev.succ ?_
    simp only [lines_Longest.l1,hwj,hbj]
    refine Ev.pos (by omega) (Ev.pos (by omega) (Ev.pos (by omega) (Ev.bind (Ev.const (lines_run s (hs l hm s (by rw [hd];simp)))) ?_)))
    exact ih (d++[s]) _ (j+1) (by rw [hd];simp) (by simp;omega)
  exact inner l [] x 0 rfl rfl
theorem lines_longest (ls : List (List ByteArray)) (hN : ls.length≤4000000000) (hn : ∀ l∈ls,l.length≤4000000000) (hs : ∀ l∈ls,∀ s∈l,s.size≤4000000000) :
  Ev (fun k=>lines_Longest.f k ls) (longAll ls 0):=lines_longest_in ls hN hn hs ls [] 0 0 rfl rfl
theorem splitL_mem : ∀ (l : List UInt8) (x : List UInt8),x∈splitL l→x.length≤l.length := by
 intro l
 induction h:l.length using Nat.strongRecOn generalizing l with
 | ind n ih =>
  intro x hx
  by_cases hl:l=[]
  ·subst hl;simp [splitL] at hx
  ·rw [splitL_next l hl] at hx
   have ht:=congrArg List.length (take_drop_line l)
   rw [List.length_append] at ht
   rcases List.mem_cons.1 hx with rfl|hx
   ·omega
   ·have hpos:0<(takeLine l).length:=by
     cases l with
     | nil=>exact absurd rfl hl
     | cons c t=>simp only [takeLine];split<;>simp
    have:=ih (dropLine l).length (by omega) (dropLine l) rfl x hx
    omega
theorem splitB_length (s : ByteArray) : (splitB s).length≤s.size := by
 unfold splitB;rw [List.length_map,←size_data];exact splitL_length_le _
theorem splitB_mem (s x : ByteArray) (h : x∈splitB s) : x.size≤s.size := by
 obtain⟨y,hy,rfl⟩:=List.mem_map.1 h
 rw [size_toB,←size_data];exact splitL_mem _ _ hy
theorem runI_le (s : ByteArray) : runI s≤s.size := by unfold runI;have := runL_le s.data.toList;rw [size_data] at this;omega
theorem mx_cases (a b : Int) : mx a b=a∧b≤a∨mx a b=b∧a≤b := by unfold mx;split<;>omega
theorem longI_bound (M : Int) : ∀ (l : List ByteArray) (n : Int),n≤M→(∀ s∈l,runI s≤M)→n≤longI l n∧longI l n≤M
 | [],n,h,_=>⟨Int.le_refl n,h⟩
 | s::l,n,h,hs=>by
  have h1:=hs s (by simp)
  have h2:n≤mx n (runI s)∧mx n (runI s)≤M:=by rcases mx_cases n (runI s) with ⟨e,_⟩|⟨e,_⟩<;>omega
  have ih:=longI_bound M l (mx n (runI s)) h2.2 (fun x hx=>hs x (by simp [hx]))
  show n≤longI l (mx n (runI s))∧longI l (mx n (runI s))≤M
  omega
def textRun (s : ByteArray) : Int := longI (splitB s) 0
theorem textRun_bound (s : ByteArray) : 0≤textRun s∧textRun s≤s.size :=
 longI_bound s.size (splitB s) 0 (by omega) (fun x hx=>by have h1:=runI_le x;have h2:=splitB_mem s x hx;omega)
end Go.Proofs.YtfiamddinkokbaaGreat.F
end

section
namespace Go.Proofs.YtfiamddinkokbaaGreat.F
open Go.RowKit Go.Proofs.YtfiamddinkokbaaGreatW.PrintWords Go.Proofs.YtfiamddinkokbaaGreatW.PrintLast Go.Proofs.YtfiamddinkokbaaGreatW.PrintMore
attribute [local go_sem] max2_int min2_int max_two min_two max_three min_three max_four min_four

def doc_run.l0 : Nat→Int→List ByteArray→Int→Int→Option (Int)
 | 0,_,_,_,_=>none
 | k+1,x3,x6,x7,x8=>if x8<x7 then (if 0≤x8 then (if x8<(x6.length:Int) then ((lines_Split.f (rdOf ByteArray.empty x6 x8)).bind fun t119=>((lines_Longest.f k (([t119]:List (List ByteArray)))).bind fun t125=>(doc_run.l0 k (mx x3 t125) x6 x7 (wrap64 (x8+1))))) else (none)) else (none)) else (some x3)
def doc_run.f (k : Nat) (l0 : List ByteArray) : Option (Int) := doc_run.l0 k 0 l0 (l0.length : Int) 0
theorem doc_run.mono_l : ∀ k,(∀ y0 y1 y2 y3,LeO (doc_run.l0 k y0 y1 y2 y3) (doc_run.l0 (k+1) y0 y1 y2 y3))
 | 0=>fun _ _ _ _ r h=>by simp [doc_run.l0] at h
 | k+1=>by
  have ih0:=doc_run.mono_l k
  ·intro y0 y1 y2 y3
   unfold doc_run.l0
   repeat' first
   | (with_reducible exact ih0 _ _ _ _)
   | (with_reducible exact lines_Longest.mono _ _)
   | (with_reducible exact LeO.refl _)
   | (with_reducible exact LeO.none _)
   | (with_reducible refine LeO.ite ?_ ?_)
   | (with_reducible refine LeO.bind ?_ (fun _=>?_))
   | exact ih0 _ _ _ _
   | exact lines_Longest.mono _ _
   | exact LeO.none _
   | refine LeO.ite ?_ ?_
   | refine LeO.bind ?_ (fun _=>?_)
theorem doc_run.mono : ∀ a0 k,LeO (doc_run.f k a0) (doc_run.f (k+1) a0) := by
 intro a0 k
 have ih0:=doc_run.mono_l k
 unfold doc_run.f
 repeat' first
   | (with_reducible exact ih0 _ _ _ _)
   | (with_reducible exact lines_Longest.mono _ _)
   | (with_reducible exact LeO.refl _)
   | (with_reducible exact LeO.none _)
   | (with_reducible refine LeO.ite ?_ ?_)
   | (with_reducible refine LeO.bind ?_ (fun _=>?_))
   | exact ih0 _ _ _ _
   | exact lines_Longest.mono _ _
   | exact LeO.none _
   | refine LeO.ite ?_ ?_
   | refine LeO.bind ?_ (fun _=>?_)
set_option maxHeartbeats 8000000 in
set_option maxRecDepth 100000 in
theorem doc_run.calls (k : Nat) (A0 : Option Addr) (c0 : Nat) (l0 : List ByteArray) (r : Int) (w : World) (hr0 : Kd.C Kd.string w A0 l0.length l0) (hc0 : l0.length≤c0) (h : doc_run.f k l0=some r) :
  Calls Tryz.prog 84 #[.slice A0 l0.length c0] w fun e w'=>e = .returned (.int .i64 r)∧Below w.heap.size w w':=by
 have HR0:=Zd hr0
 have HC0:=Zd hc0
 clear hr0 hc0
 have HB:=Zd (Below.refl w.heap.size w)
 have H:(doc_run.l0 k 0 l0 (l0.length:Int) 0)=some r:=h
 clear h
 have H':=Zd H
 clear H
 go_enter Tryz.func84,Tryz.ntmps84
 go_wp2
 go_loopg [3,8] k (fun kq v3 v8 w'=>∃ (x3_1:Int) (x8_1:Int),v3 = .int .i64 x3_1∧v8 = .int .i64 x8_1∧Aside0 (doc_run.l0 kq x3_1 l0 (l0.length:Int) x8_1=some r)∧Aside0 (kq≤k)∧Aside0 (Below w.heap.size w w'))
 case atStart=>exact⟨(0),(0),(by first|rfl|(simp;done)|(simp [*];done)),(by first|rfl|(simp;done)|(simp [*];done)),H',⟨Nat.le_refl _⟩,⟨by repeat (first|(with_reducible first|exact HB.out|apply below_alloc|apply pw_below_drewN|apply below_drew1)|exact HB.out)⟩⟩
 case round =>
  clear H'
  obtain⟨x3_1,x8_1,rfl,rfl,HA,HK1,HB⟩:=hrel
  cases gk with
  | zero=>exact absurd HA.out (by simp [doc_run.l0])
  | succ k1 =>
   have H:=HA.out
   clear HA
   simp only [doc_run.l0] at H
   by_cases c2:x8_1<(l0.length:Int)
   ·rw [if_pos c2] at H
    have c2b0:decide (x8_1<(l0.length:Int))=true:=decide_eq_true c2
    clear c2
    by_cases c3:0≤x8_1
    ·rw [if_pos c3] at H
     have c3b0:decide (0≤x8_1)=true:=decide_eq_true c3
     clear c3
     by_cases c4:x8_1<(l0.length:Int)
     ·rw [if_pos c4] at H
      have c4b0:decide (x8_1<(l0.length:Int))=true:=decide_eq_true c4
      clear c4
      replace H:=Option.bind_eq_some_iff.mp H
      obtain⟨t119,A50,H⟩:=H
      replace H:((lines_Longest.f k1 (([t119]:List (List ByteArray)))).bind fun t125=>(doc_run.l0 k1 (mx x3_1 t125) l0 (l0.length:Int) (wrap64 (x8_1+1))))=some r:=H
      have A5:=Zd A50
      clear A50
      obtain⟨y122,hy122⟩:∃ y_:List (List ByteArray),y_=(([t119]:List (List ByteArray))):=⟨_,rfl⟩
      replace H:((lines_Longest.f k1 y122).bind fun t125=>(doc_run.l0 k1 (mx x3_1 t125) l0 (l0.length:Int) (wrap64 (x8_1+1))))=some r:=by first|(rw [hy122];with_reducible exact H)|(have H2_:=(Option.bind_some _ _).symm.trans H;rw [hy122];with_reducible exact H2_)|(have H2_:=(Option.bind_some _ _).symm.trans H;with_reducible exact H2_)|with_reducible exact H|(rw [hy122];exact H)|exact H
      have Ny122:=Zd hy122
      clear hy122
      replace H:=Option.bind_eq_some_iff.mp H
      obtain⟨t125,A60,H⟩:=H
      replace H:(doc_run.l0 k1 (mx x3_1 t125) l0 (l0.length:Int) (wrap64 (x8_1+1)))=some r:=H
      have A6:=Zd A60
      clear A60
      obtain⟨ji7,hji7⟩:∃ j_:Int,(mx x3_1 t125)=j_:=⟨_,rfl⟩
      replace H:(doc_run.l0 k1 ji7 l0 (l0.length:Int) (wrap64 (x8_1+1)))=some r:=by first|(rw [hji7] at H;exact H)|(simp only [hji7] at H ⊢;exact H)
      (try rw [hji7] at A5)
      (try rw [hji7] at A6)
      have hji7_:(if x3_1<t125 then t125 else x3_1)=ji7:=hji7
      have H':=Zd H
      clear H
      have p118:0≤(x8_1:Int):=Zo
      have q118:x8_1<(l0.length:Int):=Zo
      obtain⟨ad118,e118,hx118_0⟩:=Kd.at_string HR0.out x8_1 p118 q118
      cases e118
      replace hx118_0:=Zx HB rfl hx118_0
      replace p118:=eq_true p118
      replace q118:=eq_true q118
      go_wp2_with (first|((with_reducible refine gate_callee (f:=40) rfl ?_);refine goesL_ (some 14) rfl rfl Tryz.func40 (by kernel_rfl) rfl #[.string (rdOf ByteArray.empty l0 x8_1)] rfl Zl ?_;(with_reducible refine (lines_Split.calls (rdOf ByteArray.empty l0 x8_1) t119 _ A5.out).mono ?_);rintro e w8 ⟨v120,rfl,ho0,hb⟩;refine⟨_,rfl,?_⟩;have n0_:=Zd (Kd.R_lower ho0 (below_size Zb));have n1_:=Zd (below_step Zb hb);clear HB;have HO121:=n0_;have HB:=n1_;clear n0_ n1_;(try clear hb);(try clear hb2);(try clear hk);(try clear hi);(try clear ho0);obtain⟨Ao9,co9,eo9⟩:=Kd.R_slice HO121.out;subst eo9)|((with_reducible refine gate_dst (N:=15) rfl ?_);refine Kd.N_lit (Kd.slice 9 Kd.string) _ 42 ?hg (N':=15) ?hd (xs:=([t119]:List (List ByteArray))) (inner:=[.slice Ao9 t119.length co9]) (ok:=(fun _=>True)) (okp:=(fun _=>True)) ?hr ?hp (fun _ hk=>hk) ((show ∀ k_,w8.heap.size≤k_→(fun _=>True) k_ from fun k_ hk=>trivial) _ (Nat.le_refl _)) (Below.refl _ _) (Nat.le_refl _) (by simp) ?_;(case hd=>rfl);(case hg=>rfl);(case hr=>first|(go_simp;done)|(go_simp;rfl));(case hp=>exact (Reps.one (show Kd.FK (Kd.slice 9 Kd.string) _ _ t119 [.slice Ao9 t119.length co9] from (Kd.FK_slice_mk (Kd.R_reads' (Kd.R_mono (ok':=(fun _=>True)) (HO121.out) (fun k_ hk=>trivial))).2.1 (Kd.R_F (Kd.R_mono (ok':=(fun _=>True)) (HO121.out) (fun k_ hk=>trivial))))) (Reps.none _ _)));intro v123 w10 ho11 hb hg_ hnew_;clear hg_ hnew_;(first|rw [←Ny122.out] at ho11|(simp only [Int.reduceToNat] at ho11;rw [←Ny122.out] at ho11));have n0_:=Zd (Kd.N_lower ho11 (below_size Zb));have n1_:=Zd (below_step Zb hb);clear HB;clear HO121;have HO124:=n0_;have HB:=n1_;clear n0_ n1_;clear hb ho11;obtain⟨Ao12,co12,eo12⟩:=Kd.N_slice HO124.out;subst eo12)|((with_reducible refine gate_callee (f:=121) rfl ?_);refine goesL_ (some 16) rfl rfl Tryz.func121 (by kernel_rfl) rfl #[.slice Ao12 y122.length co12] rfl Zl ?_;(with_reducible refine (lines_Longest.calls k1 _ _ y122 t125 _ ?side1 ?side2 A6.out).mono ?_);(case side1=>repeat (first|exact (Kd.N_reads' HO124.out).2.2|(with_reducible refine Kd.C_alloc ?_ _)|(with_reducible refine Kd.C_drewN ?_ _)|(with_reducible refine Kd.C_drew ?_)));(case side2=>exact (Kd.N_reads' HO124.out).2.1);rintro e w13 ⟨rfl,hb⟩;refine⟨_,rfl,?_⟩;have n0_:=Zd (Kd.N_below (by (with_reducible repeat (first|apply Kd.N_alloc|apply Kd.N_drewN|apply Kd.N_drew));exact HO124.out) hb);have n1_:=Zd (below_step Zb hb);clear HO124;clear HB;have HO124:=n0_;have HB:=n1_;clear n0_ n1_;(try clear hb);(try clear hb2);(try clear hk);(try clear hi)))
      go_roundg k1
      case measure=>have:=HK1.out;omega
      case rel=>exact⟨(ji7),(wrap64 (x8_1+1)),(by first|rfl|(simp;done)|(simp only [←hji7]<;>(first|rfl|simp))|(simp [*];done)),(by first|rfl|(simp;done)|(simp [*];done)),H',⟨by have:=HK1.out;omega⟩,⟨by repeat (first|(with_reducible first|exact HB.out|apply below_alloc|apply pw_below_drewN|apply below_drew1)|exact HB.out)⟩⟩
     ·rw [if_neg c4] at H
      exact absurd H (by simp)
    ·rw [if_neg c3] at H
     exact absurd H (by simp)
   ·rw [if_neg c2] at H
    have c2b0:decide (x8_1<(l0.length:Int))=false:=decide_eq_false c2
    clear c2
    obtain rfl:=Option.some.inj H
    go_wp2
    go_ret
    exact⟨by first|rfl|(simp [errW_none,errW_some]<;>rfl)|(simp [*,errW_none,errW_some]<;>rfl),by repeat (first|(with_reducible first|exact HB.out|apply below_alloc|apply pw_below_drewN|apply below_drew1)|exact HB.out)⟩
end Go.Proofs.YtfiamddinkokbaaGreat.F
end
