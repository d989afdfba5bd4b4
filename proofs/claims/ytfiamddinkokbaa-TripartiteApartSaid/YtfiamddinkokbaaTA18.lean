/- Texts joined into one file (wip/tools/pack.py): EndsS, Hoist -/
import Derived.Test.YtfiamddinkokbaaTA12
set_option linter.unusedVariables false
set_option linter.unusedSimpArgs false
section
namespace Go.Proofs.Ytfiamddinkokbaa.F
open Go.RowKit Go.Shelf Go.Proofs.YtfiamddinkokbaaW.PrintWords Go.Proofs.YtfiamddinkokbaaW.PrintLast Go.Proofs.YtfiamddinkokbaaW.PrintMore
attribute [local go_sem] max2_int min2_int max_two min_two max_three min_three max_four min_four
def rdS (xs : List ByteArray) (i : Int) : ByteArray := rdOf ByteArray.empty xs i
theorem str_inj {a b : ByteArray} (h : a.toList=b.toList) : a=b := by
 rw [ByteArray.toList_eq,ByteArray.toList_eq] at h
 cases a;cases b
 simp only at h
 congr 1
 exact Array.toList_inj.1 h
theorem rdS_eq_iff {a b : List ByteArray} {u : Int} (h0 : 0≤u) (h1 : u<a.length) (h2 : u<b.length) : rdS a u=rdS b u↔a[u.toNat]? = b[u.toNat]? := by
 unfold rdS rdOf
 rw [List.getD_eq_getElem?_getD,List.getD_eq_getElem?_getD,List.getElem?_eq_getElem (l:=a) (by omega),List.getElem?_eq_getElem (l:=b) (by omega)]
 simp
theorem rdS_rev {a : List ByteArray} {v : Int} (h0 : 0≤v) (h1 : v<a.length) : rdS a ((a.length : Int)-1-v)=rdS a.reverse v := by
 unfold rdS rdOf
 rw [List.getD_eq_getElem?_getD,List.getD_eq_getElem?_getD,List.getElem?_reverse (by omega),show a.length-1-v.toNat=((a.length:Int)-1-v).toNat by omega]
theorem C_str_at {w : World} {A : Option Addr} {n : Nat} {xs : List ByteArray} (h : Kd.C Kd.string w A n xs) (i : Int) (h0 : 0≤i) (h1 : i<n) : ∃ ad,A=some ad∧w.cell? (ad.add i.toNat)=some (.string (rdS xs i)) := Kd.at_string h i h0 h1
theorem cut_CS {w : World} {A : Option Addr} {c : Nat} {xs : List ByteArray} (h : Kd.C Kd.string w A xs.length xs) (hc : xs.length≤c) (j : Int) (h0 : 0≤j) (h1 : j≤xs.length) :
  ∃ (A':Option Addr) (n':Nat),n'=(xs.drop j.toNat).length∧(∀ W:World,(Instr.slice 36 (.slice A xs.length c) (some (.int .i64 j)) none none).run Try.prog W = .ok (.slice A' n' (c-j.toNat)) W)∧Kd.C Kd.string w A' n' (xs.drop j.toNat):=by
 obtain⟨m,rfl⟩:=Int.eq_ofNat_of_zero_le h0
 rw [Int.toNat_natCast]
 obtain⟨i0,hi,hz0,hz1,hz2⟩:=info_parts (show (Try.prog.info? 9).map (fun i=>(i.zero,i.size,i.bytes))=some (some (.string ⟨#[]⟩),1,16) by kernel_rfl)
 have hd:=Kd.C_drop (m:=m) h (by omega) hc
 rw [show m*Kd.string.sz=m from Nat.mul_one m] at hd
 refine⟨if c=m then A else A.map (·.add m),_,rfl,fun W=>?_,hd⟩
 rw [List.length_drop]
 have hel:Try.prog.elem 36=9:=by simp [Program.elem,Try.underlying36]
 have hu:Try.prog.underlying 36=some (.slice (Try.prog.elem 36)):=by rw [hel];exact Try.underlying36
 rw [run_slice_l W 36 A xs.length c hu .i64 (m:Int) (Int.natCast_nonneg _) (by omega),hel]
 simp [sizeOf,typeInfo,hi,hz1,sliced,Result.andThen]
theorem reads_revS {w : World} {A : Option Addr} {n : Nat} {xs : List ByteArray} (h : Kd.C Kd.string w A n xs) (v : Int) (h0 : 0≤v) (h1 : v<n) :
  ∃ ad,A=some ad∧w.cell? (ad.add ((n:Int)-1-v).toNat)=some (.string (rdS xs.reverse v)):=by
 have hn:=h.1
 subst hn
 obtain⟨ad,e,hc⟩:=C_str_at h ((xs.length:Int)-1-v) (by omega) (by omega)
 exact⟨ad,e,by rw [hc,rdS_rev h0 h1]⟩
set_option maxHeartbeats 8000000 in
set_option maxRecDepth 100000 in
theorem endss_calls {A C : Option Addr} {ca cb : Nat} {xs ys : List ByteArray} {w : World} (hA : Kd.C Kd.string w A xs.length xs) (hC : Kd.C Kd.string w C ys.length ys) (hca : xs.length≤ca) (hcb : ys.length≤cb) (hx : xs.length≤4000000000) (hy : ys.length≤4000000000) :
  Calls Try.prog 172 #[.slice A xs.length ca,.slice C ys.length cb] w fun e w'=>e = .returned (.tuple #[.int .i64 (endsN xs ys),.int .i64 (endsM xs ys)])∧Drawn0 w w':=by
 have HA:=Aside0.mk hA
 have HC:=Aside0.mk hC
 have HCA:=Aside0.mk hca
 have HCB:=Aside0.mk hcb
 clear hA hC hca hcb
 by_cases hab:ys.length<xs.length
 ·have habb:decide (ys.length<xs.length)=true:=decide_eq_true hab
  go_enter Try.func172,Try.ntmps172
  go_wp2
  go_loopg [6] xs.length (fun gg s6 wr=>∃ (u:Int) (q:Nat),s6 = .int .i64 u∧wr=w.drewN q∧0≤u∧u≤ys.length∧Aside0 (pre xs ys=u.toNat+pre (xs.drop u.toNat) (ys.drop u.toNat))∧Aside0 (xs.length-u.toNat≤gg))
  case atStart=>exact⟨0,0,rfl,rfl,by omega,by omega,⟨by simp⟩,⟨by simp⟩⟩
  case round =>
   obtain⟨u,q,rfl,rfl,hu0,hu1,HP,HG⟩:=hrel
   have hcase:(decide (u<(ys.length:Int))=false∧Aside0 (pre xs ys=u.toNat))∨(u<ys.length∧∃ ad bd,A=some ad∧C=some bd∧w.cell? (ad.add u.toNat)=some (.string (rdS xs u))∧w.cell? (bd.add u.toNat)=some (.string (rdS ys u)) ∧
     (((rdS xs u).toList==(rdS ys u).toList)=false∧Aside0 (pre xs ys=u.toNat)∨((rdS xs u).toList==(rdS ys u).toList)=true∧Aside0 (pre xs ys=(u+1).toNat+pre (xs.drop (u+1).toNat) (ys.drop (u+1).toNat)))):=by
    by_cases h1:u<ys.length
    ·right
     have h2:u<(xs.length:Int):=by omega
     have h4:u<(ys.length:Int):=by omega
     obtain⟨ad,e1,hx1⟩:=C_str_at HA.out u hu0 h2
     obtain⟨bd,e2,hx2⟩:=C_str_at HC.out u hu0 h4
     refine⟨h1,ad,bd,e1,e2,hx1,hx2,?_⟩
     by_cases h3:rdS xs u=rdS ys u
     ·refine .inr ⟨beq_iff_eq.2 (congrArg ByteArray.toList h3),⟨?_⟩⟩
      have:=pre_on (a:=xs) (b:=ys) (u:=u.toNat) (by omega) (by omega) ((rdS_eq_iff hu0 h2 h4).1 h3)
      rw [HP.out,this,show (u+1).toNat=u.toNat+1 by omega];omega
     ·exact .inl ⟨beq_eq_false_iff_ne.2 (fun e=>h3 (str_inj e)),⟨by rw [HP.out,pre_off (fun h=>h3 ((rdS_eq_iff hu0 h2 h4).2 h.2.2))];rfl⟩⟩
    ·left
     exact⟨decide_eq_false h1,⟨by rw [HP.out,pre_off (fun h=>h1 (by omega))];rfl⟩⟩
   have hux:u≤(xs.length:Int):=by omega
   have huy:u≤(ys.length:Int):=by omega
   clear HP
   rcases hcase with ⟨h1b,HP⟩|⟨h1,ad,bd,rfl,rfl,hx1,hx2,⟨h3b,HP⟩|⟨h3b,HP⟩⟩
   rotate_left 2
   ·have h1b:decide (u<(ys.length:Int))=true:=decide_eq_true h1
    have h2:u<(xs.length:Int):=by omega
    have h4:u<(ys.length:Int):=by omega
    go_wp2
    go_quiet (fail)
    go_wp2
    go_roundg (xs.length-(u+1).toNat)
    case measure=>have:=HG.out;omega
    case rel=>exact⟨u+1,q+nq,by go_num,rfl,by omega,by omega,HP,⟨Nat.le_refl _⟩⟩
   rotate_left
   ·have h1b:decide (u<(ys.length:Int))=true:=decide_eq_true h1
    have h2:u<(xs.length:Int):=by omega
    have h4:u<(ys.length:Int):=by omega
    go_wp2
    go_quiet (fail)
    clear hx1 hx2 h3b h1b h1
    obtain⟨A2,lx,hlx,hcut1,hr1⟩:=cut_CS HA.out HCA.out u hu0 hux
    obtain⟨C2,ly,hly,hcut2,hr2⟩:=cut_CS HC.out HCB.out u hu0 huy
    have HR1:=Aside0.mk hr1
    have HLX:=Aside0.mk hlx
    have HLY:=Aside0.mk hly
    have HR2:=Aside0.mk hr2
    clear hr1 hr2 hlx hly
    go_wp2
    go_quiet (fail)
    clear hcut1 hcut2
    have habb2:decide (ly<lx)=true:=by rw [HLX.out,HLY.out,List.length_drop,List.length_drop];exact decide_eq_true (by omega)
    have HPR:=Aside0.mk (show endsM xs ys=pre (xs.drop u.toNat).reverse (ys.drop u.toNat).reverse by unfold endsM;rw [HP.out])
    have hlx:lx≤4000000000:=by rw [HLX.out,List.length_drop];omega
    have hly:ly≤4000000000:=by rw [HLY.out,List.length_drop];omega
    have hab2:ly<lx:=by rw [HLX.out,HLY.out,List.length_drop,List.length_drop];omega
    have hle:ly≤lx:=by rw [HLX.out,HLY.out,List.length_drop,List.length_drop];omega
    have HUZ:=Aside0.mk (show ((endsN xs ys:Nat):Int)=u by unfold endsN;rw [HP.out];omega)
    have HUU:=Aside0.mk huy
    have HUV:=Aside0.mk hux
    clear HP HG habb hux huy hu1
    generalize xs.drop u.toNat=xd at *
    generalize ys.drop u.toNat=yd at *
    go_wp2
    obtain⟨q0,hq0⟩:∃ q0:Nat,Aside0 (q0=q0):=⟨0,⟨rfl⟩⟩
    clear hq0 q0
    go_loopg [7] lx (fun gg s7 wr=>∃ (v:Int) (q:Nat),s7 = .int .i64 v∧wr=w.drewN q∧0≤v∧v≤ly∧Aside0 (pre xd.reverse yd.reverse=v.toNat+pre (xd.reverse.drop v.toNat) (yd.reverse.drop v.toNat))∧Aside0 (lx-v.toNat≤gg))
    case atStart=>exact⟨0,_,rfl,(by rw [World.drewN_drewN,World.drewN_drewN]),by omega,by omega,⟨by simp⟩,⟨by simp⟩⟩
    case round =>
     obtain⟨v,q2,rfl,rfl,hv0,hv1,HP,HG⟩:=hrel
     have hcase:(decide (v<(ly:Int))=false∧Aside0 (pre xd.reverse yd.reverse=v.toNat))∨(v<ly∧∃ ad bd,A2=some ad∧C2=some bd∧w.cell? (ad.add ((lx:Int)-1-v).toNat)=some (.string (rdS xd.reverse v))∧w.cell? (bd.add ((ly:Int)-1-v).toNat)=some (.string (rdS yd.reverse v)) ∧
       (((rdS xd.reverse v).toList==(rdS yd.reverse v).toList)=false∧Aside0 (pre xd.reverse yd.reverse=v.toNat)∨((rdS xd.reverse v).toList==(rdS yd.reverse v).toList)=true∧Aside0 (pre xd.reverse yd.reverse=(v+1).toNat+pre (xd.reverse.drop (v+1).toNat) (yd.reverse.drop (v+1).toNat)))):=by
      have l1:xd.reverse.length=lx:=by rw [List.length_reverse];exact HLX.out.symm
      have l2:yd.reverse.length=ly:=by rw [List.length_reverse];exact HLY.out.symm
      by_cases h1:v<ly
      ·right
       have h2:v<(lx:Int):=by omega
       have h4:v<(ly:Int):=by omega
       obtain⟨ad,e1,hx1⟩:=reads_revS HR1.out v hv0 h2
       obtain⟨bd,e2,hx2⟩:=reads_revS HR2.out v hv0 h4
       refine⟨h1,ad,bd,e1,e2,hx1,hx2,?_⟩
       by_cases h3:rdS xd.reverse v=rdS yd.reverse v
       ·refine .inr ⟨beq_iff_eq.2 (congrArg ByteArray.toList h3),⟨?_⟩⟩
        have:=pre_on (a:=xd.reverse) (b:=yd.reverse) (u:=v.toNat) (by omega) (by omega) ((rdS_eq_iff hv0 (by omega) (by omega)).1 h3)
        rw [HP.out,this,show (v+1).toNat=v.toNat+1 by omega];omega
       ·exact .inl ⟨beq_eq_false_iff_ne.2 (fun e=>h3 (str_inj e)),⟨by rw [HP.out,pre_off (fun h=>h3 ((rdS_eq_iff hv0 (by omega) (by omega)).2 h.2.2))];rfl⟩⟩
      ·left
       exact⟨decide_eq_false h1,⟨by rw [HP.out,pre_off (fun h=>h1 (by omega))];rfl⟩⟩
     clear HP
     generalize rdS xd.reverse v=cx at hcase
     generalize rdS yd.reverse v=cy at hcase
     rcases hcase with ⟨h1b,HP⟩|⟨h1,ad,bd,rfl,rfl,hx1,hx2,⟨h3b,HP⟩|⟨h3b,HP⟩⟩
     ·go_wp2
      go_quiet (fail)
      go_wp2
      go_ret2
      rw [HPR.out,HP.out,HUZ.out,show ((v.toNat:Nat):Int)=v by omega]
      exact⟨rfl,Drawn0.step ⟨⟨q2,rfl⟩⟩ _⟩
     ·have h1b:decide (v<(ly:Int))=true:=decide_eq_true h1
      have i0:0≤(lx:Int)-1-v:=by omega
      have i1:(lx:Int)-1-v<(lx:Int):=by omega
      have i2:0≤(ly:Int)-1-v:=by omega
      have i3:(ly:Int)-1-v<(ly:Int):=by omega
      go_wp2
      go_quiet (fail)
      go_wp2
      go_ret2
      rw [HPR.out,HP.out,HUZ.out,show ((v.toNat:Nat):Int)=v by omega]
      exact⟨rfl,Drawn0.step ⟨⟨q2,rfl⟩⟩ _⟩
     ·have h1b:decide (v<(ly:Int))=true:=decide_eq_true h1
      have i0:0≤(lx:Int)-1-v:=by omega
      have i1:(lx:Int)-1-v<(lx:Int):=by omega
      have i2:0≤(ly:Int)-1-v:=by omega
      have i3:(ly:Int)-1-v<(ly:Int):=by omega
      go_wp2
      go_quiet (fail)
      go_wp2
      go_roundg (lx-(v+1).toNat)
      case measure=>have:=HG.out;omega
      case rel=>exact⟨v+1,q2+nq,by go_num,rfl,by omega,by omega,HP,⟨Nat.le_refl _⟩⟩
   ·go_wp2
    go_quiet (fail)
    clear h1b
    obtain⟨A2,lx,hlx,hcut1,hr1⟩:=cut_CS HA.out HCA.out u hu0 hux
    obtain⟨C2,ly,hly,hcut2,hr2⟩:=cut_CS HC.out HCB.out u hu0 huy
    have HR1:=Aside0.mk hr1
    have HLX:=Aside0.mk hlx
    have HLY:=Aside0.mk hly
    have HR2:=Aside0.mk hr2
    clear hr1 hr2 hlx hly
    go_wp2
    go_quiet (fail)
    clear hcut1 hcut2
    have habb2:decide (ly<lx)=true:=by rw [HLX.out,HLY.out,List.length_drop,List.length_drop];exact decide_eq_true (by omega)
    have HPR:=Aside0.mk (show endsM xs ys=pre (xs.drop u.toNat).reverse (ys.drop u.toNat).reverse by unfold endsM;rw [HP.out])
    have hlx:lx≤4000000000:=by rw [HLX.out,List.length_drop];omega
    have hly:ly≤4000000000:=by rw [HLY.out,List.length_drop];omega
    have hab2:ly<lx:=by rw [HLX.out,HLY.out,List.length_drop,List.length_drop];omega
    have hle:ly≤lx:=by rw [HLX.out,HLY.out,List.length_drop,List.length_drop];omega
    have HUZ:=Aside0.mk (show ((endsN xs ys:Nat):Int)=u by unfold endsN;rw [HP.out];omega)
    have HUU:=Aside0.mk huy
    have HUV:=Aside0.mk hux
    clear HP HG habb hux huy hu1
    generalize xs.drop u.toNat=xd at *
    generalize ys.drop u.toNat=yd at *
    go_wp2
    obtain⟨q0,hq0⟩:∃ q0:Nat,Aside0 (q0=q0):=⟨0,⟨rfl⟩⟩
    clear hq0 q0
    go_loopg [7] lx (fun gg s7 wr=>∃ (v:Int) (q:Nat),s7 = .int .i64 v∧wr=w.drewN q∧0≤v∧v≤ly∧Aside0 (pre xd.reverse yd.reverse=v.toNat+pre (xd.reverse.drop v.toNat) (yd.reverse.drop v.toNat))∧Aside0 (lx-v.toNat≤gg))
    case atStart=>exact⟨0,_,rfl,(by rw [World.drewN_drewN,World.drewN_drewN]),by omega,by omega,⟨by simp⟩,⟨by simp⟩⟩
    case round =>
     obtain⟨v,q2,rfl,rfl,hv0,hv1,HP,HG⟩:=hrel
     have hcase:(decide (v<(ly:Int))=false∧Aside0 (pre xd.reverse yd.reverse=v.toNat))∨(v<ly∧∃ ad bd,A2=some ad∧C2=some bd∧w.cell? (ad.add ((lx:Int)-1-v).toNat)=some (.string (rdS xd.reverse v))∧w.cell? (bd.add ((ly:Int)-1-v).toNat)=some (.string (rdS yd.reverse v)) ∧
       (((rdS xd.reverse v).toList==(rdS yd.reverse v).toList)=false∧Aside0 (pre xd.reverse yd.reverse=v.toNat)∨((rdS xd.reverse v).toList==(rdS yd.reverse v).toList)=true∧Aside0 (pre xd.reverse yd.reverse=(v+1).toNat+pre (xd.reverse.drop (v+1).toNat) (yd.reverse.drop (v+1).toNat)))):=by
      have l1:xd.reverse.length=lx:=by rw [List.length_reverse];exact HLX.out.symm
      have l2:yd.reverse.length=ly:=by rw [List.length_reverse];exact HLY.out.symm
      by_cases h1:v<ly
      ·right
       have h2:v<(lx:Int):=by omega
       have h4:v<(ly:Int):=by omega
       obtain⟨ad,e1,hx1⟩:=reads_revS HR1.out v hv0 h2
       obtain⟨bd,e2,hx2⟩:=reads_revS HR2.out v hv0 h4
       refine⟨h1,ad,bd,e1,e2,hx1,hx2,?_⟩
       by_cases h3:rdS xd.reverse v=rdS yd.reverse v
       ·refine .inr ⟨beq_iff_eq.2 (congrArg ByteArray.toList h3),⟨?_⟩⟩
        have:=pre_on (a:=xd.reverse) (b:=yd.reverse) (u:=v.toNat) (by omega) (by omega) ((rdS_eq_iff hv0 (by omega) (by omega)).1 h3)
        rw [HP.out,this,show (v+1).toNat=v.toNat+1 by omega];omega
       ·exact .inl ⟨beq_eq_false_iff_ne.2 (fun e=>h3 (str_inj e)),⟨by rw [HP.out,pre_off (fun h=>h3 ((rdS_eq_iff hv0 (by omega) (by omega)).2 h.2.2))];rfl⟩⟩
      ·left
       exact⟨decide_eq_false h1,⟨by rw [HP.out,pre_off (fun h=>h1 (by omega))];rfl⟩⟩
     clear HP
     generalize rdS xd.reverse v=cx at hcase
     generalize rdS yd.reverse v=cy at hcase
     rcases hcase with ⟨h1b,HP⟩|⟨h1,ad,bd,rfl,rfl,hx1,hx2,⟨h3b,HP⟩|⟨h3b,HP⟩⟩
     ·go_wp2
      go_quiet (fail)
      go_wp2
      go_ret2
      rw [HPR.out,HP.out,HUZ.out,show ((v.toNat:Nat):Int)=v by omega]
      exact⟨rfl,Drawn0.step ⟨⟨q2,rfl⟩⟩ _⟩
     ·have h1b:decide (v<(ly:Int))=true:=decide_eq_true h1
      have i0:0≤(lx:Int)-1-v:=by omega
      have i1:(lx:Int)-1-v<(lx:Int):=by omega
      have i2:0≤(ly:Int)-1-v:=by omega
      have i3:(ly:Int)-1-v<(ly:Int):=by omega
      go_wp2
      go_quiet (fail)
      go_wp2
      go_ret2
      rw [HPR.out,HP.out,HUZ.out,show ((v.toNat:Nat):Int)=v by omega]
      exact⟨rfl,Drawn0.step ⟨⟨q2,rfl⟩⟩ _⟩
     ·have h1b:decide (v<(ly:Int))=true:=decide_eq_true h1
      have i0:0≤(lx:Int)-1-v:=by omega
      have i1:(lx:Int)-1-v<(lx:Int):=by omega
      have i2:0≤(ly:Int)-1-v:=by omega
      have i3:(ly:Int)-1-v<(ly:Int):=by omega
      go_wp2
      go_quiet (fail)
      go_wp2
      go_roundg (lx-(v+1).toNat)
      case measure=>have:=HG.out;omega
      case rel=>exact⟨v+1,q2+nq,by go_num,rfl,by omega,by omega,HP,⟨Nat.le_refl _⟩⟩
 ·have habb:decide (ys.length<xs.length)=false:=decide_eq_false hab
  go_enter Try.func172,Try.ntmps172
  go_wp2
  go_loopg [6] xs.length (fun gg s6 wr=>∃ (u:Int) (q:Nat),s6 = .int .i64 u∧wr=w.drewN q∧0≤u∧u≤xs.length∧Aside0 (pre xs ys=u.toNat+pre (xs.drop u.toNat) (ys.drop u.toNat))∧Aside0 (xs.length-u.toNat≤gg))
  case atStart=>exact⟨0,0,rfl,rfl,by omega,by omega,⟨by simp⟩,⟨by simp⟩⟩
  case round =>
   obtain⟨u,q,rfl,rfl,hu0,hu1,HP,HG⟩:=hrel
   have hcase:(decide (u<(xs.length:Int))=false∧Aside0 (pre xs ys=u.toNat))∨(u<xs.length∧∃ ad bd,A=some ad∧C=some bd∧w.cell? (ad.add u.toNat)=some (.string (rdS xs u))∧w.cell? (bd.add u.toNat)=some (.string (rdS ys u)) ∧
     (((rdS xs u).toList==(rdS ys u).toList)=false∧Aside0 (pre xs ys=u.toNat)∨((rdS xs u).toList==(rdS ys u).toList)=true∧Aside0 (pre xs ys=(u+1).toNat+pre (xs.drop (u+1).toNat) (ys.drop (u+1).toNat)))):=by
    by_cases h1:u<xs.length
    ·right
     have h2:u<(xs.length:Int):=by omega
     have h4:u<(ys.length:Int):=by omega
     obtain⟨ad,e1,hx1⟩:=C_str_at HA.out u hu0 h2
     obtain⟨bd,e2,hx2⟩:=C_str_at HC.out u hu0 h4
     refine⟨h1,ad,bd,e1,e2,hx1,hx2,?_⟩
     by_cases h3:rdS xs u=rdS ys u
     ·refine .inr ⟨beq_iff_eq.2 (congrArg ByteArray.toList h3),⟨?_⟩⟩
      have:=pre_on (a:=xs) (b:=ys) (u:=u.toNat) (by omega) (by omega) ((rdS_eq_iff hu0 h2 h4).1 h3)
      rw [HP.out,this,show (u+1).toNat=u.toNat+1 by omega];omega
     ·exact .inl ⟨beq_eq_false_iff_ne.2 (fun e=>h3 (str_inj e)),⟨by rw [HP.out,pre_off (fun h=>h3 ((rdS_eq_iff hu0 h2 h4).2 h.2.2))];rfl⟩⟩
    ·left
     exact⟨decide_eq_false h1,⟨by rw [HP.out,pre_off (fun h=>h1 (by omega))];rfl⟩⟩
   have hux:u≤(xs.length:Int):=by omega
   have huy:u≤(ys.length:Int):=by omega
   clear HP
   rcases hcase with ⟨h1b,HP⟩|⟨h1,ad,bd,rfl,rfl,hx1,hx2,⟨h3b,HP⟩|⟨h3b,HP⟩⟩
   rotate_left 2
   ·have h1b:decide (u<(xs.length:Int))=true:=decide_eq_true h1
    have h2:u<(xs.length:Int):=by omega
    have h4:u<(ys.length:Int):=by omega
    go_wp2
    go_quiet (fail)
    go_wp2
    go_roundg (xs.length-(u+1).toNat)
    case measure=>have:=HG.out;omega
    case rel=>exact⟨u+1,q+nq,by go_num,rfl,by omega,by omega,HP,⟨Nat.le_refl _⟩⟩
   rotate_left
   ·have h1b:decide (u<(xs.length:Int))=true:=decide_eq_true h1
    have h2:u<(xs.length:Int):=by omega
    have h4:u<(ys.length:Int):=by omega
    go_wp2
    go_quiet (fail)
    clear hx1 hx2 h3b h1b h1
    obtain⟨A2,lx,hlx,hcut1,hr1⟩:=cut_CS HA.out HCA.out u hu0 hux
    obtain⟨C2,ly,hly,hcut2,hr2⟩:=cut_CS HC.out HCB.out u hu0 huy
    have HR1:=Aside0.mk hr1
    have HLX:=Aside0.mk hlx
    have HLY:=Aside0.mk hly
    have HR2:=Aside0.mk hr2
    clear hr1 hr2 hlx hly
    go_wp2
    go_quiet (fail)
    clear hcut1 hcut2
    have habb2:decide (ly<lx)=false:=by rw [HLX.out,HLY.out,List.length_drop,List.length_drop];exact decide_eq_false (by omega)
    have HPR:=Aside0.mk (show endsM xs ys=pre (xs.drop u.toNat).reverse (ys.drop u.toNat).reverse by unfold endsM;rw [HP.out])
    have hlx:lx≤4000000000:=by rw [HLX.out,List.length_drop];omega
    have hly:ly≤4000000000:=by rw [HLY.out,List.length_drop];omega
    have hab2:¬ ly<lx:=by rw [HLX.out,HLY.out,List.length_drop,List.length_drop];omega
    have hle:lx≤ly:=by rw [HLX.out,HLY.out,List.length_drop,List.length_drop];omega
    have HUZ:=Aside0.mk (show ((endsN xs ys:Nat):Int)=u by unfold endsN;rw [HP.out];omega)
    have HUU:=Aside0.mk huy
    have HUV:=Aside0.mk hux
    clear HP HG habb hux huy hu1
    generalize xs.drop u.toNat=xd at *
    generalize ys.drop u.toNat=yd at *
    go_wp2
    obtain⟨q0,hq0⟩:∃ q0:Nat,Aside0 (q0=q0):=⟨0,⟨rfl⟩⟩
    clear hq0 q0
    go_loopg [7] lx (fun gg s7 wr=>∃ (v:Int) (q:Nat),s7 = .int .i64 v∧wr=w.drewN q∧0≤v∧v≤lx∧Aside0 (pre xd.reverse yd.reverse=v.toNat+pre (xd.reverse.drop v.toNat) (yd.reverse.drop v.toNat))∧Aside0 (lx-v.toNat≤gg))
    case atStart=>exact⟨0,_,rfl,(by rw [World.drewN_drewN,World.drewN_drewN]),by omega,by omega,⟨by simp⟩,⟨by simp⟩⟩
    case round =>
     obtain⟨v,q2,rfl,rfl,hv0,hv1,HP,HG⟩:=hrel
     have hcase:(decide (v<(lx:Int))=false∧Aside0 (pre xd.reverse yd.reverse=v.toNat))∨(v<lx∧∃ ad bd,A2=some ad∧C2=some bd∧w.cell? (ad.add ((lx:Int)-1-v).toNat)=some (.string (rdS xd.reverse v))∧w.cell? (bd.add ((ly:Int)-1-v).toNat)=some (.string (rdS yd.reverse v)) ∧
       (((rdS xd.reverse v).toList==(rdS yd.reverse v).toList)=false∧Aside0 (pre xd.reverse yd.reverse=v.toNat)∨((rdS xd.reverse v).toList==(rdS yd.reverse v).toList)=true∧Aside0 (pre xd.reverse yd.reverse=(v+1).toNat+pre (xd.reverse.drop (v+1).toNat) (yd.reverse.drop (v+1).toNat)))):=by
      have l1:xd.reverse.length=lx:=by rw [List.length_reverse];exact HLX.out.symm
      have l2:yd.reverse.length=ly:=by rw [List.length_reverse];exact HLY.out.symm
      by_cases h1:v<lx
      ·right
       have h2:v<(lx:Int):=by omega
       have h4:v<(ly:Int):=by omega
       obtain⟨ad,e1,hx1⟩:=reads_revS HR1.out v hv0 h2
       obtain⟨bd,e2,hx2⟩:=reads_revS HR2.out v hv0 h4
       refine⟨h1,ad,bd,e1,e2,hx1,hx2,?_⟩
       by_cases h3:rdS xd.reverse v=rdS yd.reverse v
       ·refine .inr ⟨beq_iff_eq.2 (congrArg ByteArray.toList h3),⟨?_⟩⟩
        have:=pre_on (a:=xd.reverse) (b:=yd.reverse) (u:=v.toNat) (by omega) (by omega) ((rdS_eq_iff hv0 (by omega) (by omega)).1 h3)
        rw [HP.out,this,show (v+1).toNat=v.toNat+1 by omega];omega
       ·exact .inl ⟨beq_eq_false_iff_ne.2 (fun e=>h3 (str_inj e)),⟨by rw [HP.out,pre_off (fun h=>h3 ((rdS_eq_iff hv0 (by omega) (by omega)).2 h.2.2))];rfl⟩⟩
      ·left
       exact⟨decide_eq_false h1,⟨by rw [HP.out,pre_off (fun h=>h1 (by omega))];rfl⟩⟩
     clear HP
     generalize rdS xd.reverse v=cx at hcase
     generalize rdS yd.reverse v=cy at hcase
     rcases hcase with ⟨h1b,HP⟩|⟨h1,ad,bd,rfl,rfl,hx1,hx2,⟨h3b,HP⟩|⟨h3b,HP⟩⟩
     ·go_wp2
      go_quiet (fail)
      go_wp2
      go_ret2
      rw [HPR.out,HP.out,HUZ.out,show ((v.toNat:Nat):Int)=v by omega]
      exact⟨rfl,Drawn0.step ⟨⟨q2,rfl⟩⟩ _⟩
     ·have h1b:decide (v<(lx:Int))=true:=decide_eq_true h1
      have i0:0≤(lx:Int)-1-v:=by omega
      have i1:(lx:Int)-1-v<(lx:Int):=by omega
      have i2:0≤(ly:Int)-1-v:=by omega
      have i3:(ly:Int)-1-v<(ly:Int):=by omega
      go_wp2
      go_quiet (fail)
      go_wp2
      go_ret2
      rw [HPR.out,HP.out,HUZ.out,show ((v.toNat:Nat):Int)=v by omega]
      exact⟨rfl,Drawn0.step ⟨⟨q2,rfl⟩⟩ _⟩
     ·have h1b:decide (v<(lx:Int))=true:=decide_eq_true h1
      have i0:0≤(lx:Int)-1-v:=by omega
      have i1:(lx:Int)-1-v<(lx:Int):=by omega
      have i2:0≤(ly:Int)-1-v:=by omega
      have i3:(ly:Int)-1-v<(ly:Int):=by omega
      go_wp2
      go_quiet (fail)
      go_wp2
      go_roundg (lx-(v+1).toNat)
      case measure=>have:=HG.out;omega
      case rel=>exact⟨v+1,q2+nq,by go_num,rfl,by omega,by omega,HP,⟨Nat.le_refl _⟩⟩
   ·go_wp2
    go_quiet (fail)
    clear h1b
    obtain⟨A2,lx,hlx,hcut1,hr1⟩:=cut_CS HA.out HCA.out u hu0 hux
    obtain⟨C2,ly,hly,hcut2,hr2⟩:=cut_CS HC.out HCB.out u hu0 huy
    have HR1:=Aside0.mk hr1
    have HLX:=Aside0.mk hlx
    have HLY:=Aside0.mk hly
    have HR2:=Aside0.mk hr2
    clear hr1 hr2 hlx hly
    go_wp2
    go_quiet (fail)
    clear hcut1 hcut2
    have habb2:decide (ly<lx)=false:=by rw [HLX.out,HLY.out,List.length_drop,List.length_drop];exact decide_eq_false (by omega)
    have HPR:=Aside0.mk (show endsM xs ys=pre (xs.drop u.toNat).reverse (ys.drop u.toNat).reverse by unfold endsM;rw [HP.out])
    have hlx:lx≤4000000000:=by rw [HLX.out,List.length_drop];omega
    have hly:ly≤4000000000:=by rw [HLY.out,List.length_drop];omega
    have hab2:¬ ly<lx:=by rw [HLX.out,HLY.out,List.length_drop,List.length_drop];omega
    have hle:lx≤ly:=by rw [HLX.out,HLY.out,List.length_drop,List.length_drop];omega
    have HUZ:=Aside0.mk (show ((endsN xs ys:Nat):Int)=u by unfold endsN;rw [HP.out];omega)
    have HUU:=Aside0.mk huy
    have HUV:=Aside0.mk hux
    clear HP HG habb hux huy hu1
    generalize xs.drop u.toNat=xd at *
    generalize ys.drop u.toNat=yd at *
    go_wp2
    obtain⟨q0,hq0⟩:∃ q0:Nat,Aside0 (q0=q0):=⟨0,⟨rfl⟩⟩
    clear hq0 q0
    go_loopg [7] lx (fun gg s7 wr=>∃ (v:Int) (q:Nat),s7 = .int .i64 v∧wr=w.drewN q∧0≤v∧v≤lx∧Aside0 (pre xd.reverse yd.reverse=v.toNat+pre (xd.reverse.drop v.toNat) (yd.reverse.drop v.toNat))∧Aside0 (lx-v.toNat≤gg))
    case atStart=>exact⟨0,_,rfl,(by rw [World.drewN_drewN,World.drewN_drewN]),by omega,by omega,⟨by simp⟩,⟨by simp⟩⟩
    case round =>
     obtain⟨v,q2,rfl,rfl,hv0,hv1,HP,HG⟩:=hrel
     have hcase:(decide (v<(lx:Int))=false∧Aside0 (pre xd.reverse yd.reverse=v.toNat))∨(v<lx∧∃ ad bd,A2=some ad∧C2=some bd∧w.cell? (ad.add ((lx:Int)-1-v).toNat)=some (.string (rdS xd.reverse v))∧w.cell? (bd.add ((ly:Int)-1-v).toNat)=some (.string (rdS yd.reverse v)) ∧
       (((rdS xd.reverse v).toList==(rdS yd.reverse v).toList)=false∧Aside0 (pre xd.reverse yd.reverse=v.toNat)∨((rdS xd.reverse v).toList==(rdS yd.reverse v).toList)=true∧Aside0 (pre xd.reverse yd.reverse=(v+1).toNat+pre (xd.reverse.drop (v+1).toNat) (yd.reverse.drop (v+1).toNat)))):=by
      have l1:xd.reverse.length=lx:=by rw [List.length_reverse];exact HLX.out.symm
      have l2:yd.reverse.length=ly:=by rw [List.length_reverse];exact HLY.out.symm
      by_cases h1:v<lx
      ·right
       have h2:v<(lx:Int):=by omega
       have h4:v<(ly:Int):=by omega
       obtain⟨ad,e1,hx1⟩:=reads_revS HR1.out v hv0 h2
       obtain⟨bd,e2,hx2⟩:=reads_revS HR2.out v hv0 h4
       refine⟨h1,ad,bd,e1,e2,hx1,hx2,?_⟩
       by_cases h3:rdS xd.reverse v=rdS yd.reverse v
       ·refine .inr ⟨beq_iff_eq.2 (congrArg ByteArray.toList h3),⟨?_⟩⟩
        have:=pre_on (a:=xd.reverse) (b:=yd.reverse) (u:=v.toNat) (by omega) (by omega) ((rdS_eq_iff hv0 (by omega) (by omega)).1 h3)
        rw [HP.out,this,show (v+1).toNat=v.toNat+1 by omega];omega
       ·exact .inl ⟨beq_eq_false_iff_ne.2 (fun e=>h3 (str_inj e)),⟨by rw [HP.out,pre_off (fun h=>h3 ((rdS_eq_iff hv0 (by omega) (by omega)).2 h.2.2))];rfl⟩⟩
      ·left
       exact⟨decide_eq_false h1,⟨by rw [HP.out,pre_off (fun h=>h1 (by omega))];rfl⟩⟩
     clear HP
     generalize rdS xd.reverse v=cx at hcase
     generalize rdS yd.reverse v=cy at hcase
     rcases hcase with ⟨h1b,HP⟩|⟨h1,ad,bd,rfl,rfl,hx1,hx2,⟨h3b,HP⟩|⟨h3b,HP⟩⟩
     ·go_wp2
      go_quiet (fail)
      go_wp2
      go_ret2
      rw [HPR.out,HP.out,HUZ.out,show ((v.toNat:Nat):Int)=v by omega]
      exact⟨rfl,Drawn0.step ⟨⟨q2,rfl⟩⟩ _⟩
     ·have h1b:decide (v<(lx:Int))=true:=decide_eq_true h1
      have i0:0≤(lx:Int)-1-v:=by omega
      have i1:(lx:Int)-1-v<(lx:Int):=by omega
      have i2:0≤(ly:Int)-1-v:=by omega
      have i3:(ly:Int)-1-v<(ly:Int):=by omega
      go_wp2
      go_quiet (fail)
      go_wp2
      go_ret2
      rw [HPR.out,HP.out,HUZ.out,show ((v.toNat:Nat):Int)=v by omega]
      exact⟨rfl,Drawn0.step ⟨⟨q2,rfl⟩⟩ _⟩
     ·have h1b:decide (v<(lx:Int))=true:=decide_eq_true h1
      have i0:0≤(lx:Int)-1-v:=by omega
      have i1:(lx:Int)-1-v<(lx:Int):=by omega
      have i2:0≤(ly:Int)-1-v:=by omega
      have i3:(ly:Int)-1-v<(ly:Int):=by omega
      go_wp2
      go_quiet (fail)
      go_wp2
      go_roundg (lx-(v+1).toNat)
      case measure=>have:=HG.out;omega
      case rel=>exact⟨v+1,q2+nq,by go_num,rfl,by omega,by omega,HP,⟨Nat.le_refl _⟩⟩
end Go.Proofs.Ytfiamddinkokbaa.F
end

section
namespace Go.Proofs.Ytfiamddinkokbaa.F
open Go.RowKit Go.Shelf Go.Proofs.YtfiamddinkokbaaW.PrintWords
set_option maxHeartbeats 4000000 in
set_option maxRecDepth 100000 in
theorem hoist_calls {A C : Option Addr} {ca cb : Nat} {xs ys : List ByteArray} {w : World} (hA : Kd.C Kd.string w A xs.length xs) (hC : Kd.C Kd.string w C ys.length ys) (hca : xs.length≤ca) (hcb : ys.length≤cb) (hx : xs.length≤4000000000) (hy : ys.length≤4000000000) :
  Calls Try.prog 168 #[.slice A xs.length ca,.slice C ys.length cb] w fun e w'=>e = .returned (.tuple #[.int .i64 (endsN xs ys),.int .i64 (endsM xs ys)])∧Drawn0 w w':=by
 have H:=endss_calls hA hC hca hcb hx hy
 clear hA hC hca hcb hx hy
 go_enter Try.func168,Try.ntmps168
 go_wp2_with (first|(go_at_call 172;refine H.mono ?_;rintro e w1 ⟨rfl,hd⟩;have HD:=Aside0.mk hd;clear hd))
 go_ret2
 exact⟨rfl,HD.out⟩
end Go.Proofs.Ytfiamddinkokbaa.F
end
